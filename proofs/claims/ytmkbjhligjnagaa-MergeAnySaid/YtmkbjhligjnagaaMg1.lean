/- Walks of merge: what each function returns. Printed by a program out of notes. -/
import Derived.Test.YtmkbjhligjnagaaMgS
import Derived.Test.YtmkbjhligjnagaaTy
namespace Go.Proofs.Ytmkbjhligjnagaa
open Go.Vc
open Classical

set_option maxRecDepth 100000 in
theorem whole_c {V : HV} {l : Value} {rv : List Value} {L : List (List Int)} {h i r : Int} (hl : Mat .i64 V l rv L) (hg : Good L) (h0 : 0 ≤ h) (h1 : h ≤ i) (h2 : i ≤ L.length) (h3 : 0 ≤ r) (h4 : r < L.length) :
    FnC Try.prog 58 [l, (Value.int .i64 h), (Value.int .i64 i), (Value.int .i64 r)] V [] (fun v _ _ => v = (Value.int .i64 (wsum L r.toNat h.toNat (i - h).toNat))) := by
  refine fn_intro (N := 27) Try.func58 (by kernel_rfl) rfl rfl rfl (Nat.le_of_ble_eq_true rfl) ?_
  intro w0 D
  have hlen := hl.len
  have hle := hg.le
  refine vc_seq ?_
  refine vc_region ?_
  refine oq (qv_as (Value.int .i64 0) rfl) ?_
  refine ops_nil ?_
  refine vc_seq ?_
  refine vc_region ?_
  refine oq (qv_as (Value.int .i64 0) rfl) ?_
  refine ops_nil ?_
  refine vc_seq ?_
  refine vc_seq ?_
  refine vc_region ?_
  refine oq (qv_mv (Value.int .i64 h) rfl) ?_
  refine oq (qv_as (Value.int .i64 h) rfl) ?_
  refine ops_nil ?_
  refine vc_block ?_
  refine vc_loop (α := Int) (fun (x : Int) => [(0, l), (1, (Value.int .i64 h)), (2, (Value.int .i64 i)), (3, (Value.int .i64 r)), (8, (Value.int .i64 0)), (9, (Value.int .i64 (wsum L r.toNat h.toNat (x - h).toNat))), (10, (Value.int .i64 x))]) (fun (x : Int) V' σ' => V = V' ∧ [] = σ' ∧ h ≤ x ∧ x ≤ i) (fun (x : Int) => (i - x).toNat) (h) ?_ ?_ ?_
  · exact ⟨rfl, rfl, rfl, rfl, rfl, (congrArg (Value.int .i64) (show 0 = (wsum L r.toNat h.toNat (h - h).toNat) from by rw [show (h - h).toNat = 0 by omega]; rfl)), rfl, trivial⟩
  · exact ⟨rfl, rfl, by omega, by omega⟩
  rintro j e1 V0l σ0l hI0
  obtain ⟨rfl, rfl, i1, i2⟩ : V = V0l ∧ [] = σ0l ∧ h ≤ j ∧ j ≤ i := hI0
  refine vc_seq ?_
  refine vc_seq ?_
  refine vc_region ?_
  refine oq (qv_mv (Value.int .i64 j) rfl) ?_
  refine oq (qv_mv (Value.int .i64 i) rfl) ?_
  refine oq (qv_lss rfl rfl) ?_
  refine ops_nil ?_
  refine vc_if rfl (fun c1 => ?_) (fun c1 => ?_)
  ·
    refine vc_skip ?_
    refine vc_seq ?_
    refine vc_block ?_
    have e1 : wsum L r.toNat h.toNat (j - h).toNat + gi (gr L (j)) (r) = wsum L r.toNat h.toNat (j + 1 - h).toNat := by
      rw [show (j + 1 - h).toNat = (j - h).toNat + 1 by omega, wsum, show h.toNat + (j - h).toNat = j.toNat by omega]
    have e2 := wsum_bd hg (r := r.toNat) (h := h.toNat) (by omega) (j + 1 - h).toNat (by omega)
    have e3 := hg.row j (by omega) (by omega)
    refine vc_region ?_
    refine oq (qv_mv (Value.int .i64 (wsum L r.toNat h.toNat (j - h).toNat)) rfl) ?_
    refine oq (qv_mv l rfl) ?_
    refine oq (qv_mv (Value.int .i64 j) rfl) ?_
    refine oq (qv_ia (v := l) (i := j) Try.underlying23 Try.size29 rfl (inV hl.sl) rfl (by omega) (by omega)) ?_
    refine oq (qv_ld (v := l) (i := j) Try.plain29 rfl (inV hl.sl) (by omega) (by omega)) ?_
    refine oq (qv_mv (Value.int .i64 r) rfl) ?_
    refine oq (qv_iai (v := (gv rv (j))) (i := r) Try.underlying29 Try.size3 rfl (inVi (hl.row (j) (by omega) (by omega))) rfl (by omega) (by omega)) ?_
    refine oq (qv_ldi (v := (gv rv (j))) (i := r) Try.plain3 rfl (inVi (hl.row (j) (by omega) (by omega))) (by omega) (by omega)) ?_
    refine oq (qv_add rfl rfl (by omega)) ?_
    refine oq (qv_as (Value.int .i64 ((wsum L r.toNat h.toNat (j - h).toNat) + (gi (gr L (j)) (r)))) rfl) ?_
    refine ops_nil ?_
    refine vc_region ?_
    refine oq (qv_mv (Value.int .i64 j) rfl) ?_
    refine oq (qv_add rfl rfl (by omega)) ?_
    refine oq (qv_as (Value.int .i64 (j + 1)) rfl) ?_
    refine ops_nil ?_
    refine ⟨(j + 1), ⟨rfl, rfl, rfl, rfl, rfl, (congrArg (Value.int .i64) (show ((wsum L r.toNat h.toNat (j - h).toNat) + (gi (gr L (j)) (r))) = (wsum L r.toNat h.toNat ((j + 1) - h).toNat) from by exact e1)), (congrArg (Value.int .i64) (show (j + 1) = ((j + 1)) from by rfl)), trivial⟩, ⟨rfl, rfl, by omega, by omega⟩, by omega⟩
  ·
    refine vc_exit ?_
    refine blockQ_hit ?_
    refine vc_seq ?_
    refine vc_region ?_
    refine oq (qv_mv (Value.int .i64 (wsum L r.toNat h.toNat (j - h).toNat)) rfl) ?_
    refine oq (qv_as (Value.int .i64 (wsum L r.toNat h.toNat (j - h).toNat)) rfl) ?_
    refine ops_nil ?_
    refine vc_ret ?_
    exact rq1 (Value.int .i64 (wsum L r.toNat h.toNat (i - h).toNat)) (congrArg (Value.int .i64) (show (wsum L r.toNat h.toNat (j - h).toNat) = (wsum L r.toNat h.toNat (i - h).toNat) from by rw [show j = i by omega])) rfl

set_option maxRecDepth 100000 in
theorem ck2_c {V : HV} {n : Int} :
    FnC Try.prog 31 [(Value.int .i64 n)] V [] (fun v _ _ => v = (Value.bool (decide (n < 0 ∨ 1048576 < n)))) := by
  refine fn_intro (N := 9) Try.func31 (by kernel_rfl) rfl rfl rfl (Nat.le_of_ble_eq_true rfl) ?_
  intro w0 D
  refine vc_seq ?_
  refine vc_region ?_
  refine oq (qv_as (Value.bool false) rfl) ?_
  refine ops_nil ?_
  refine vc_seq ?_
  refine vc_region ?_
  refine oq (qv_mv (Value.int .i64 n) rfl) ?_
  refine oq (qv_lss rfl rfl) ?_
  refine oq (qv_mv (Value.bool (decide (n < 0))) rfl) ?_
  by_cases g1 : n < 0
  ·
    refine os (want_fn g1 rfl rfl rfl) ?_
    refine os (want_fn g1 rfl rfl rfl) ?_
    refine oq (qv_pick_t g1 rfl (rfl : ev _ _ = (Value.bool true))) ?_
    refine oq (qv_as (Value.bool true) rfl) ?_
    refine ops_nil ?_
    refine vc_ret ?_
    exact rq1 (Value.bool (decide (n < 0 ∨ 1048576 < n))) (congrArg Value.bool (decide_eq_true (show (n < 0 ∨ 1048576 < n) from by omega)).symm) rfl
  ·
    refine og (qv_mv (Value.int .i64 n) rfl) (want_f g1 rfl rfl rfl) ?_
    refine og (qv_gtr rfl rfl) (want_f g1 rfl rfl rfl) ?_
    refine oq (qv_pick_f g1 rfl (rfl : ev _ _ = (Value.bool (decide (1048576 < n))))) ?_
    refine oq (qv_as (Value.bool (decide (1048576 < n))) rfl) ?_
    refine ops_nil ?_
    refine vc_ret ?_
    exact rq1 (Value.bool (decide (n < 0 ∨ 1048576 < n))) (congrArg Value.bool (decide_eq_decide.2 (show (1048576 < n) ↔ (n < 0 ∨ 1048576 < n) from by omega))) rfl

set_option maxRecDepth 100000 in
theorem po2_c {V : HV} {n : Int} :
    FnC Try.prog 41 [(Value.int .i64 n)] V [] (fun v _ _ => v = (Value.bool (decide (n < 0 ∨ 1152921504606846976 < n)))) := by
  refine fn_intro (N := 9) Try.func41 (by kernel_rfl) rfl rfl rfl (Nat.le_of_ble_eq_true rfl) ?_
  intro w0 D
  refine vc_seq ?_
  refine vc_region ?_
  refine oq (qv_as (Value.bool false) rfl) ?_
  refine ops_nil ?_
  refine vc_seq ?_
  refine vc_region ?_
  refine oq (qv_mv (Value.int .i64 n) rfl) ?_
  refine oq (qv_lss rfl rfl) ?_
  refine oq (qv_mv (Value.bool (decide (n < 0))) rfl) ?_
  by_cases g1 : n < 0
  ·
    refine os (want_fn g1 rfl rfl rfl) ?_
    refine os (want_fn g1 rfl rfl rfl) ?_
    refine oq (qv_pick_t g1 rfl (rfl : ev _ _ = (Value.bool true))) ?_
    refine oq (qv_as (Value.bool true) rfl) ?_
    refine ops_nil ?_
    refine vc_ret ?_
    exact rq1 (Value.bool (decide (n < 0 ∨ 1152921504606846976 < n))) (congrArg Value.bool (decide_eq_true (show (n < 0 ∨ 1152921504606846976 < n) from by omega)).symm) rfl
  ·
    refine og (qv_mv (Value.int .i64 n) rfl) (want_f g1 rfl rfl rfl) ?_
    refine og (qv_gtr rfl rfl) (want_f g1 rfl rfl rfl) ?_
    refine oq (qv_pick_f g1 rfl (rfl : ev _ _ = (Value.bool (decide (1152921504606846976 < n))))) ?_
    refine oq (qv_as (Value.bool (decide (1152921504606846976 < n))) rfl) ?_
    refine ops_nil ?_
    refine vc_ret ?_
    exact rq1 (Value.bool (decide (n < 0 ∨ 1152921504606846976 < n))) (congrArg Value.bool (decide_eq_decide.2 (show (1152921504606846976 < n) ↔ (n < 0 ∨ 1152921504606846976 < n) from by omega))) rfl

set_option maxRecDepth 100000 in
theorem groups_c {V : HV} {k : Int} :
    FnC Try.prog 32 [(Value.int .i64 k)] V [] (fun v _ _ => v = (Value.bool (decide (1 ≤ k ∧ k ≤ 32)))) := by
  refine fn_intro (N := 9) Try.func32 (by kernel_rfl) rfl rfl rfl (Nat.le_of_ble_eq_true rfl) ?_
  intro w0 D
  refine vc_seq ?_
  refine vc_region ?_
  refine oq (qv_as (Value.bool false) rfl) ?_
  refine ops_nil ?_
  refine vc_seq ?_
  refine vc_region ?_
  refine oq (qv_mv (Value.int .i64 k) rfl) ?_
  refine oq (qv_geq rfl rfl) ?_
  refine oq (qv_mv (Value.bool (decide (1 ≤ k))) rfl) ?_
  by_cases g1 : 1 ≤ k
  ·
    refine og (qv_mv (Value.int .i64 k) rfl) (want_t g1 rfl rfl rfl) ?_
    refine og (qv_leq rfl rfl) (want_t g1 rfl rfl rfl) ?_
    refine oq (qv_pick_t g1 rfl (rfl : ev _ _ = (Value.bool (decide (k ≤ 32))))) ?_
    refine oq (qv_as (Value.bool (decide (k ≤ 32))) rfl) ?_
    refine ops_nil ?_
    refine vc_ret ?_
    exact rq1 (Value.bool (decide (1 ≤ k ∧ k ≤ 32))) (congrArg Value.bool (decide_eq_decide.2 (show (k ≤ 32) ↔ (1 ≤ k ∧ k ≤ 32) from by omega))) rfl
  ·
    refine os (want_tn g1 rfl rfl rfl) ?_
    refine os (want_tn g1 rfl rfl rfl) ?_
    refine oq (qv_pick_f g1 rfl (rfl : ev _ _ = (Value.bool false))) ?_
    refine oq (qv_as (Value.bool false) rfl) ?_
    refine ops_nil ?_
    refine vc_ret ?_
    exact rq1 (Value.bool (decide (1 ≤ k ∧ k ≤ 32))) (congrArg Value.bool (decide_eq_false (show ¬ (1 ≤ k ∧ k ≤ 32) from by omega)).symm) rfl

set_option maxRecDepth 100000 in
theorem ck1_c {V : HV} {row l : Value} {R : List Int} {vals : List Value} {b : Nat} (hr : Ints .i64 V row R) (hl : Sl V l vals) (hb : Cells V b [l]) :
    FnC Try.prog 29 [row, (Value.pointer (some ⟨b, 0, none⟩))] V [] (fun v _ _ => v = (Value.bool (decide (R.length ≠ vals.length)))) := by
  refine fn_intro (N := 9) Try.func29 (by kernel_rfl) rfl rfl rfl (Nat.le_of_ble_eq_true rfl) ?_
  intro w0 D
  refine vc_seq ?_
  refine vc_region ?_
  refine oq (qv_as (Value.bool false) rfl) ?_
  refine ops_nil ?_
  refine vc_seq ?_
  refine vc_region ?_
  refine oq (qv_mv row rfl) ?_
  refine oq (qv_lenI Try.underlying29 rfl hr) ?_
  refine oq (qv_ldp (v := l) Try.plain23 rfl (inVc hb) rfl) ?_
  refine oq (qv_lenS Try.underlying23 rfl hl) ?_
  refine oq (qv_neq rfl rfl) ?_
  refine oq (qv_as (Value.bool (decide (((R.length : Int)) ≠ ((vals.length : Int))))) rfl) ?_
  refine ops_nil ?_
  refine vc_ret ?_
  exact rq1 (Value.bool (decide (R.length ≠ vals.length))) (congrArg Value.bool (decide_eq_decide.2 (show (((R.length : Int)) ≠ ((vals.length : Int))) ↔ (R.length ≠ vals.length) from by omega))) rfl

set_option maxRecDepth 100000 in
theorem po1_c {V : HV} {row : Value} {R : List Int} {n : Int} {b : Nat} (hr : Ints .i64 V row R) (hb : Cells V b [Value.int .i64 n]) (h0 : 0 ≤ n) (h1 : n ≤ 1000000) :
    FnC Try.prog 40 [row, (Value.pointer (some ⟨b, 0, none⟩))] V [] (fun v _ _ => v = (Value.bool (decide ((R.length : Int) ≠ n + 1)))) := by
  refine fn_intro (N := 9) Try.func40 (by kernel_rfl) rfl rfl rfl (Nat.le_of_ble_eq_true rfl) ?_
  intro w0 D
  refine vc_seq ?_
  refine vc_region ?_
  refine oq (qv_as (Value.bool false) rfl) ?_
  refine ops_nil ?_
  refine vc_seq ?_
  refine vc_region ?_
  refine oq (qv_mv row rfl) ?_
  refine oq (qv_lenI Try.underlying29 rfl hr) ?_
  refine oq (qv_ldp (v := (Value.int .i64 n)) Try.plain3 rfl (inVc hb) rfl) ?_
  refine oq (qv_add rfl rfl (by omega)) ?_
  refine oq (qv_neq rfl rfl) ?_
  refine oq (qv_as (Value.bool (decide (((R.length : Int)) ≠ (n + 1)))) rfl) ?_
  refine ops_nil ?_
  refine vc_ret ?_
  exact rq1 (Value.bool (decide ((R.length : Int) ≠ n + 1))) (congrArg Value.bool (decide_eq_decide.2 (show (((R.length : Int)) ≠ (n + 1)) ↔ ((R.length : Int) ≠ n + 1) from by omega))) rfl

set_option maxRecDepth 100000 in
theorem idxL_c {V : HV} {s : Value} {vals : List Value} {fid : Nat} {caps : List Value} {p : Int → Prop} (hs : Sl V s vals) (hf : ∀ i : Int, 0 ≤ i → i < vals.length → FnC Try.prog fid (gv vals i :: caps) V [] (fun v _ _ => v = .bool (decide (p i)))) :
    FnC Try.prog 55 [s, (Value.func (.func fid) #[] caps.toArray)] V [] (fun v _ _ => v = (Value.int .i64 (firstI p vals.length))) := by
  refine fn_intro (N := 19) Try.func55 (by kernel_rfl) rfl rfl rfl (Nat.le_of_ble_eq_true rfl) ?_
  intro w0 D
  have hbd := hs.bound
  refine vc_seq ?_
  refine vc_region ?_
  refine oq (qv_as (Value.int .i64 0) rfl) ?_
  refine ops_nil ?_
  refine vc_seq ?_
  refine vc_seq ?_
  refine vc_region ?_
  refine oq (qv_mv s rfl) ?_
  refine oq (qv_lenS Try.underlying23 rfl hs) ?_
  refine oq (qv_mv (Value.int .i64 0) rfl) ?_
  refine ops_nil ?_
  refine vc_block ?_
  refine vc_loop (α := Int) (fun (x : Int) => [(0, s), (1, (Value.func (.func fid) #[] caps.toArray)), (7, (Value.int .i64 ((vals.length : Int)))), (8, (Value.int .i64 x))]) (fun (x : Int) V' σ' => V = V' ∧ [] = σ' ∧ 0 ≤ x ∧ x ≤ vals.length ∧ ∀ i : Int, 0 ≤ i → i < x → ¬ p i) (fun (x : Int) => (vals.length - x).toNat) (0) ?_ ?_ ?_
  · exact ⟨rfl, rfl, rfl, rfl, trivial⟩
  · exact ⟨rfl, rfl, by omega, by omega, fun i a b => by omega⟩
  rintro j e1 V0l σ0l hI0
  obtain ⟨rfl, rfl, i1, i2, hno⟩ : V = V0l ∧ [] = σ0l ∧ 0 ≤ j ∧ j ≤ vals.length ∧ ∀ i : Int, 0 ≤ i → i < j → ¬ p i := hI0
  refine vc_seq ?_
  refine vc_region ?_
  refine oq (qv_lss rfl rfl) ?_
  refine ops_nil ?_
  refine vc_seq ?_
  refine vc_if rfl (fun c1 => ?_) (fun c1 => ?_)
  ·
    refine vc_skip ?_
    refine vc_seq ?_
    refine vc_block ?_
    refine vc_seq ?_
    refine vc_region ?_
    refine oq (qv_mv (Value.int .i64 j) rfl) ?_
    refine oq (qv_as (Value.int .i64 j) rfl) ?_
    refine ops_nil ?_
    refine vc_seq ?_
    refine vc_region ?_
    refine oq (qv_mv (Value.func (.func fid) #[] caps.toArray) rfl) ?_
    refine oq (qv_mv s rfl) ?_
    refine oq (qv_mv (Value.int .i64 j) rfl) ?_
    refine oq (qv_ia (v := s) (i := j) Try.underlying23 Try.size29 rfl (inV hs) rfl (by omega) (by omega)) ?_
    refine oq (qv_ld (v := s) (i := j) Try.plain29 rfl (inV hs) (by omega) (by omega)) ?_
    refine oq (qv_call (v := (Value.bool (decide (p j)))) (hf j (by omega) (by omega)) rfl rfl) ?_
    refine ops_nil ?_
    refine vc_if rfl (fun c2 => ?_) (fun c2 => ?_)
    ·
      refine vc_seq ?_
      refine vc_region ?_
      refine oq (qv_mv (Value.int .i64 j) rfl) ?_
      refine oq (qv_as (Value.int .i64 j) rfl) ?_
      refine ops_nil ?_
      refine vc_ret ?_
      refine blockQ_ret ?_
      refine blockQ_ret ?_
      exact rq1 (Value.int .i64 (firstI p vals.length)) (congrArg (Value.int .i64) (show j = (firstI p vals.length) from by exact (firstI_some (by omega) (by assumption) hno _ (by omega)).symm)) rfl
    ·
      refine vc_skip ?_
      refine vc_region ?_
      refine oq (qv_add rfl rfl (by omega)) ?_
      refine oq (qv_mv (Value.int .i64 (j + 1)) rfl) ?_
      refine ops_nil ?_
      refine ⟨(j + 1), ⟨rfl, rfl, rfl, (congrArg (Value.int .i64) (show (j + 1) = ((j + 1)) from by omega)), trivial⟩, ⟨rfl, rfl, by omega, by omega, all_snoc hno (by assumption)⟩, by omega⟩
  ·
    refine vc_exit ?_
    refine blockQ_hit ?_
    refine vc_seq ?_
    refine vc_region ?_
    refine oq (qv_as (Value.int .i64 ((-1))) rfl) ?_
    refine ops_nil ?_
    refine vc_ret ?_
    exact rq1 (Value.int .i64 (firstI p vals.length)) (congrArg (Value.int .i64) (show ((-1)) = (firstI p vals.length) from by exact (firstI_none _ (fun i a b => hno i a (by omega))).symm)) rfl

set_option maxRecDepth 100000 in
theorem idxI_c {V : HV} {s : Value} {vals : List Value} {fid : Nat} {caps : List Value} {p : Int → Prop} (hs : Sl V s vals) (hf : ∀ i : Int, 0 ≤ i → i < vals.length → FnC Try.prog fid (gv vals i :: caps) V [] (fun v _ _ => v = .bool (decide (p i)))) :
    FnC Try.prog 56 [s, (Value.func (.func fid) #[] caps.toArray)] V [] (fun v _ _ => v = (Value.int .i64 (firstI p vals.length))) := by
  refine fn_intro (N := 19) Try.func56 (by kernel_rfl) rfl rfl rfl (Nat.le_of_ble_eq_true rfl) ?_
  intro w0 D
  have hbd := hs.bound
  refine vc_seq ?_
  refine vc_region ?_
  refine oq (qv_as (Value.int .i64 0) rfl) ?_
  refine ops_nil ?_
  refine vc_seq ?_
  refine vc_seq ?_
  refine vc_region ?_
  refine oq (qv_mv s rfl) ?_
  refine oq (qv_lenS Try.underlying29 rfl hs) ?_
  refine oq (qv_mv (Value.int .i64 0) rfl) ?_
  refine ops_nil ?_
  refine vc_block ?_
  refine vc_loop (α := Int) (fun (x : Int) => [(0, s), (1, (Value.func (.func fid) #[] caps.toArray)), (7, (Value.int .i64 ((vals.length : Int)))), (8, (Value.int .i64 x))]) (fun (x : Int) V' σ' => V = V' ∧ [] = σ' ∧ 0 ≤ x ∧ x ≤ vals.length ∧ ∀ i : Int, 0 ≤ i → i < x → ¬ p i) (fun (x : Int) => (vals.length - x).toNat) (0) ?_ ?_ ?_
  · exact ⟨rfl, rfl, rfl, rfl, trivial⟩
  · exact ⟨rfl, rfl, by omega, by omega, fun i a b => by omega⟩
  rintro j e1 V0l σ0l hI0
  obtain ⟨rfl, rfl, i1, i2, hno⟩ : V = V0l ∧ [] = σ0l ∧ 0 ≤ j ∧ j ≤ vals.length ∧ ∀ i : Int, 0 ≤ i → i < j → ¬ p i := hI0
  refine vc_seq ?_
  refine vc_region ?_
  refine oq (qv_lss rfl rfl) ?_
  refine ops_nil ?_
  refine vc_seq ?_
  refine vc_if rfl (fun c1 => ?_) (fun c1 => ?_)
  ·
    refine vc_skip ?_
    refine vc_seq ?_
    refine vc_block ?_
    refine vc_seq ?_
    refine vc_region ?_
    refine oq (qv_mv (Value.int .i64 j) rfl) ?_
    refine oq (qv_as (Value.int .i64 j) rfl) ?_
    refine ops_nil ?_
    refine vc_seq ?_
    refine vc_region ?_
    refine oq (qv_mv (Value.func (.func fid) #[] caps.toArray) rfl) ?_
    refine oq (qv_mv s rfl) ?_
    refine oq (qv_mv (Value.int .i64 j) rfl) ?_
    refine oq (qv_ia (v := s) (i := j) Try.underlying29 Try.size3 rfl (inV hs) rfl (by omega) (by omega)) ?_
    refine oq (qv_ld (v := s) (i := j) Try.plain3 rfl (inV hs) (by omega) (by omega)) ?_
    refine oq (qv_call (v := (Value.bool (decide (p j)))) (hf j (by omega) (by omega)) rfl rfl) ?_
    refine ops_nil ?_
    refine vc_if rfl (fun c2 => ?_) (fun c2 => ?_)
    ·
      refine vc_seq ?_
      refine vc_region ?_
      refine oq (qv_mv (Value.int .i64 j) rfl) ?_
      refine oq (qv_as (Value.int .i64 j) rfl) ?_
      refine ops_nil ?_
      refine vc_ret ?_
      refine blockQ_ret ?_
      refine blockQ_ret ?_
      exact rq1 (Value.int .i64 (firstI p vals.length)) (congrArg (Value.int .i64) (show j = (firstI p vals.length) from by exact (firstI_some (by omega) (by assumption) hno _ (by omega)).symm)) rfl
    ·
      refine vc_skip ?_
      refine vc_region ?_
      refine oq (qv_add rfl rfl (by omega)) ?_
      refine oq (qv_mv (Value.int .i64 (j + 1)) rfl) ?_
      refine ops_nil ?_
      refine ⟨(j + 1), ⟨rfl, rfl, rfl, (congrArg (Value.int .i64) (show (j + 1) = ((j + 1)) from by omega)), trivial⟩, ⟨rfl, rfl, by omega, by omega, all_snoc hno (by assumption)⟩, by omega⟩
  ·
    refine vc_exit ?_
    refine blockQ_hit ?_
    refine vc_seq ?_
    refine vc_region ?_
    refine oq (qv_as (Value.int .i64 ((-1))) rfl) ?_
    refine ops_nil ?_
    refine vc_ret ?_
    exact rq1 (Value.int .i64 (firstI p vals.length)) (congrArg (Value.int .i64) (show ((-1)) = (firstI p vals.length) from by exact (firstI_none _ (fun i a b => hno i a (by omega))).symm)) rfl

set_option maxRecDepth 100000 in
theorem idxS_c {V : HV} {s : Value} {vals : List Value} {fid : Nat} {caps : List Value} {p : Int → Prop} (hs : Sl V s vals) (hf : ∀ i : Int, 0 ≤ i → i < vals.length → FnC Try.prog fid (gv vals i :: caps) V [] (fun v _ _ => v = .bool (decide (p i)))) :
    FnC Try.prog 59 [s, (Value.func (.func fid) #[] caps.toArray)] V [] (fun v _ _ => v = (Value.int .i64 (firstI p vals.length))) := by
  refine fn_intro (N := 19) Try.func59 (by kernel_rfl) rfl rfl rfl (Nat.le_of_ble_eq_true rfl) ?_
  intro w0 D
  have hbd := hs.bound
  refine vc_seq ?_
  refine vc_region ?_
  refine oq (qv_as (Value.int .i64 0) rfl) ?_
  refine ops_nil ?_
  refine vc_seq ?_
  refine vc_seq ?_
  refine vc_region ?_
  refine oq (qv_mv s rfl) ?_
  refine oq (qv_lenS Try.underlying31 rfl hs) ?_
  refine oq (qv_mv (Value.int .i64 0) rfl) ?_
  refine ops_nil ?_
  refine vc_block ?_
  refine vc_loop (α := Int) (fun (x : Int) => [(0, s), (1, (Value.func (.func fid) #[] caps.toArray)), (7, (Value.int .i64 ((vals.length : Int)))), (8, (Value.int .i64 x))]) (fun (x : Int) V' σ' => V = V' ∧ [] = σ' ∧ 0 ≤ x ∧ x ≤ vals.length ∧ ∀ i : Int, 0 ≤ i → i < x → ¬ p i) (fun (x : Int) => (vals.length - x).toNat) (0) ?_ ?_ ?_
  · exact ⟨rfl, rfl, rfl, rfl, trivial⟩
  · exact ⟨rfl, rfl, by omega, by omega, fun i a b => by omega⟩
  rintro j e1 V0l σ0l hI0
  obtain ⟨rfl, rfl, i1, i2, hno⟩ : V = V0l ∧ [] = σ0l ∧ 0 ≤ j ∧ j ≤ vals.length ∧ ∀ i : Int, 0 ≤ i → i < j → ¬ p i := hI0
  refine vc_seq ?_
  refine vc_region ?_
  refine oq (qv_lss rfl rfl) ?_
  refine ops_nil ?_
  refine vc_seq ?_
  refine vc_if rfl (fun c1 => ?_) (fun c1 => ?_)
  ·
    refine vc_skip ?_
    refine vc_seq ?_
    refine vc_block ?_
    refine vc_seq ?_
    refine vc_region ?_
    refine oq (qv_mv (Value.int .i64 j) rfl) ?_
    refine oq (qv_as (Value.int .i64 j) rfl) ?_
    refine ops_nil ?_
    refine vc_seq ?_
    refine vc_region ?_
    refine oq (qv_mv (Value.func (.func fid) #[] caps.toArray) rfl) ?_
    refine oq (qv_mv s rfl) ?_
    refine oq (qv_mv (Value.int .i64 j) rfl) ?_
    refine oq (qv_ia (v := s) (i := j) Try.underlying31 Try.size29 rfl (inV hs) rfl (by omega) (by omega)) ?_
    refine oq (qv_ld (v := s) (i := j) Try.plain29 rfl (inV hs) (by omega) (by omega)) ?_
    refine oq (qv_call (v := (Value.bool (decide (p j)))) (hf j (by omega) (by omega)) rfl rfl) ?_
    refine ops_nil ?_
    refine vc_if rfl (fun c2 => ?_) (fun c2 => ?_)
    ·
      refine vc_seq ?_
      refine vc_region ?_
      refine oq (qv_mv (Value.int .i64 j) rfl) ?_
      refine oq (qv_as (Value.int .i64 j) rfl) ?_
      refine ops_nil ?_
      refine vc_ret ?_
      refine blockQ_ret ?_
      refine blockQ_ret ?_
      exact rq1 (Value.int .i64 (firstI p vals.length)) (congrArg (Value.int .i64) (show j = (firstI p vals.length) from by exact (firstI_some (by omega) (by assumption) hno _ (by omega)).symm)) rfl
    ·
      refine vc_skip ?_
      refine vc_region ?_
      refine oq (qv_add rfl rfl (by omega)) ?_
      refine oq (qv_mv (Value.int .i64 (j + 1)) rfl) ?_
      refine ops_nil ?_
      refine ⟨(j + 1), ⟨rfl, rfl, rfl, (congrArg (Value.int .i64) (show (j + 1) = ((j + 1)) from by omega)), trivial⟩, ⟨rfl, rfl, by omega, by omega, all_snoc hno (by assumption)⟩, by omega⟩
  ·
    refine vc_exit ?_
    refine blockQ_hit ?_
    refine vc_seq ?_
    refine vc_region ?_
    refine oq (qv_as (Value.int .i64 ((-1))) rfl) ?_
    refine ops_nil ?_
    refine vc_ret ?_
    exact rq1 (Value.int .i64 (firstI p vals.length)) (congrArg (Value.int .i64) (show ((-1)) = (firstI p vals.length) from by exact (firstI_none _ (fun i a b => hno i a (by omega))).symm)) rfl

set_option maxRecDepth 100000 in
theorem conL_c {V : HV} {s : Value} {vals : List Value} {fid : Nat} {caps : List Value} {p : Int → Prop} (hs : Sl V s vals) (hf : ∀ i : Int, 0 ≤ i → i < vals.length → FnC Try.prog fid (gv vals i :: caps) V [] (fun v _ _ => v = .bool (decide (p i)))) :
    FnC Try.prog 28 [s, (Value.func (.func fid) #[] caps.toArray)] V [] (fun v _ _ => v = (Value.bool (decide (∃ i : Int, 0 ≤ i ∧ i < vals.length ∧ p i)))) := by
  refine fn_intro (N := 9) Try.func28 (by kernel_rfl) rfl rfl rfl (Nat.le_of_ble_eq_true rfl) ?_
  intro w0 D
  refine vc_seq ?_
  refine vc_region ?_
  refine oq (qv_as (Value.bool false) rfl) ?_
  refine ops_nil ?_
  refine vc_seq ?_
  refine vc_region ?_
  refine oq (qv_mv s rfl) ?_
  refine oq (qv_mv (Value.func (.func fid) #[] caps.toArray) rfl) ?_
  refine oq (qv_call (v := (Value.int .i64 (firstI p vals.length))) (idxL_c hs hf) rfl rfl) ?_
  refine oq (qv_geq rfl rfl) ?_
  refine oq (qv_as (Value.bool (decide (0 ≤ (firstI p vals.length)))) rfl) ?_
  refine ops_nil ?_
  refine vc_ret ?_
  exact rq1 (Value.bool (decide (∃ i : Int, 0 ≤ i ∧ i < vals.length ∧ p i))) (congrArg Value.bool (decide_eq_decide.2 (show (0 ≤ (firstI p vals.length)) ↔ (∃ i : Int, 0 ≤ i ∧ i < vals.length ∧ p i) from by exact firstI_nonneg _))) rfl

set_option maxRecDepth 100000 in
theorem conI_c {V : HV} {s : Value} {vals : List Value} {fid : Nat} {caps : List Value} {p : Int → Prop} (hs : Sl V s vals) (hf : ∀ i : Int, 0 ≤ i → i < vals.length → FnC Try.prog fid (gv vals i :: caps) V [] (fun v _ _ => v = .bool (decide (p i)))) :
    FnC Try.prog 30 [s, (Value.func (.func fid) #[] caps.toArray)] V [] (fun v _ _ => v = (Value.bool (decide (∃ i : Int, 0 ≤ i ∧ i < vals.length ∧ p i)))) := by
  refine fn_intro (N := 9) Try.func30 (by kernel_rfl) rfl rfl rfl (Nat.le_of_ble_eq_true rfl) ?_
  intro w0 D
  refine vc_seq ?_
  refine vc_region ?_
  refine oq (qv_as (Value.bool false) rfl) ?_
  refine ops_nil ?_
  refine vc_seq ?_
  refine vc_region ?_
  refine oq (qv_mv s rfl) ?_
  refine oq (qv_mv (Value.func (.func fid) #[] caps.toArray) rfl) ?_
  refine oq (qv_call (v := (Value.int .i64 (firstI p vals.length))) (idxI_c hs hf) rfl rfl) ?_
  refine oq (qv_geq rfl rfl) ?_
  refine oq (qv_as (Value.bool (decide (0 ≤ (firstI p vals.length)))) rfl) ?_
  refine ops_nil ?_
  refine vc_ret ?_
  exact rq1 (Value.bool (decide (∃ i : Int, 0 ≤ i ∧ i < vals.length ∧ p i))) (congrArg Value.bool (decide_eq_decide.2 (show (0 ≤ (firstI p vals.length)) ↔ (∃ i : Int, 0 ≤ i ∧ i < vals.length ∧ p i) from by exact firstI_nonneg _))) rfl

set_option maxRecDepth 100000 in
theorem conS_c {V : HV} {s : Value} {vals : List Value} {fid : Nat} {caps : List Value} {p : Int → Prop} (hs : Sl V s vals) (hf : ∀ i : Int, 0 ≤ i → i < vals.length → FnC Try.prog fid (gv vals i :: caps) V [] (fun v _ _ => v = .bool (decide (p i)))) :
    FnC Try.prog 39 [s, (Value.func (.func fid) #[] caps.toArray)] V [] (fun v _ _ => v = (Value.bool (decide (∃ i : Int, 0 ≤ i ∧ i < vals.length ∧ p i)))) := by
  refine fn_intro (N := 9) Try.func39 (by kernel_rfl) rfl rfl rfl (Nat.le_of_ble_eq_true rfl) ?_
  intro w0 D
  refine vc_seq ?_
  refine vc_region ?_
  refine oq (qv_as (Value.bool false) rfl) ?_
  refine ops_nil ?_
  refine vc_seq ?_
  refine vc_region ?_
  refine oq (qv_mv s rfl) ?_
  refine oq (qv_mv (Value.func (.func fid) #[] caps.toArray) rfl) ?_
  refine oq (qv_call (v := (Value.int .i64 (firstI p vals.length))) (idxS_c hs hf) rfl rfl) ?_
  refine oq (qv_geq rfl rfl) ?_
  refine oq (qv_as (Value.bool (decide (0 ≤ (firstI p vals.length)))) rfl) ?_
  refine ops_nil ?_
  refine vc_ret ?_
  exact rq1 (Value.bool (decide (∃ i : Int, 0 ≤ i ∧ i < vals.length ∧ p i))) (congrArg Value.bool (decide_eq_decide.2 (show (0 ≤ (firstI p vals.length)) ↔ (∃ i : Int, 0 ≤ i ∧ i < vals.length ∧ p i) from by exact firstI_nonneg _))) rfl

set_option maxRecDepth 100000 in
theorem few_c {V : HV} {l : Value} {rv : List Value} {L : List (List Int)} {n : Int} (hl : Mat .i64 V l rv L) :
    FnC Try.prog 12 [l, (Value.int .i64 n)] V [] (fun v _ _ => v = (Value.bool (decide (Few L n)))) := by
  refine fn_intro (N := 22) Try.func12 (by kernel_rfl) rfl rfl rfl (Nat.le_of_ble_eq_true rfl) ?_
  intro w0 D
  have hlen := hl.len
  have hbd := hl.sl.bound
  refine vc_seq ?_
  refine vc_region ?_
  refine oq (qv_as (Value.bool false) rfl) ?_
  refine ops_nil ?_
  refine vc_seq ?_
  refine vc_seq ?_
  refine vc_region ?_
  refine oq (qv_mv l rfl) ?_
  refine oq (qv_lenS Try.underlying23 rfl hl.sl) ?_
  refine oq (qv_mv (Value.int .i64 n) rfl) ?_
  refine oq (qv_gtr rfl rfl) ?_
  refine ops_nil ?_
  refine vc_if rfl (fun c1 => ?_) (fun c1 => ?_)
  ·
    refine vc_seq ?_
    refine vc_region ?_
    refine oq (qv_as (Value.bool false) rfl) ?_
    refine ops_nil ?_
    refine vc_ret ?_
    exact rq1 (Value.bool (decide (Few L n))) (congrArg Value.bool (decide_eq_false (show ¬ (Few L n) from by intro hh; first | (have := hh.1; omega) | (have := hh.2 j (by omega) (by omega); omega))).symm) rfl
  ·
    refine vc_skip ?_
    refine vc_seq ?_
    refine vc_seq ?_
    refine vc_region ?_
    refine oq (qv_mv l rfl) ?_
    refine oq (qv_lenS Try.underlying23 rfl hl.sl) ?_
    refine oq (qv_mv (Value.int .i64 0) rfl) ?_
    refine ops_nil ?_
    refine vc_block ?_
    refine vc_loop (α := Int) (fun (x : Int) => [(0, l), (1, (Value.int .i64 n)), (10, (Value.bool (decide (n < ((rv.length : Int)))))), (11, l), (12, (Value.int .i64 ((rv.length : Int)))), (13, (Value.int .i64 x))]) (fun (x : Int) V' σ' => V = V' ∧ [] = σ' ∧ 0 ≤ x ∧ x ≤ rv.length ∧ ∀ i : Int, 0 ≤ i → i < x → (gr L i).length ≤ n) (fun (x : Int) => (rv.length - x).toNat) (0) ?_ ?_ ?_
    · exact ⟨rfl, rfl, rfl, rfl, rfl, rfl, trivial⟩
    · exact ⟨rfl, rfl, by omega, by omega, fun i a b => by omega⟩
    rintro j e1 V0l σ0l hI0
    obtain ⟨rfl, rfl, i1, i2, hno⟩ : V = V0l ∧ [] = σ0l ∧ 0 ≤ j ∧ j ≤ rv.length ∧ ∀ i : Int, 0 ≤ i → i < j → (gr L i).length ≤ n := hI0
    refine vc_seq ?_
    refine vc_region ?_
    refine oq (qv_lss rfl rfl) ?_
    refine ops_nil ?_
    refine vc_seq ?_
    refine vc_if rfl (fun c2 => ?_) (fun c2 => ?_)
    ·
      refine vc_skip ?_
      refine vc_seq ?_
      refine vc_block ?_
      refine vc_seq ?_
      refine vc_region ?_
      refine oq (qv_ia (v := l) (i := j) Try.underlying23 Try.size29 rfl (inV hl.sl) rfl (by omega) (by omega)) ?_
      refine oq (qv_ld (v := l) (i := j) Try.plain29 rfl (inV hl.sl) (by omega) (by omega)) ?_
      refine oq (qv_as (gv rv (j)) rfl) ?_
      refine ops_nil ?_
      refine vc_seq ?_
      refine vc_region ?_
      refine oq (qv_mv (gv rv (j)) rfl) ?_
      refine oq (qv_lenI Try.underlying29 rfl (hl.row (j) (by omega) (by omega))) ?_
      refine oq (qv_mv (Value.int .i64 n) rfl) ?_
      refine oq (qv_gtr rfl rfl) ?_
      refine ops_nil ?_
      refine vc_if rfl (fun c3 => ?_) (fun c3 => ?_)
      ·
        refine vc_seq ?_
        refine vc_region ?_
        refine oq (qv_as (Value.bool false) rfl) ?_
        refine ops_nil ?_
        refine vc_ret ?_
        refine blockQ_ret ?_
        refine blockQ_ret ?_
        exact rq1 (Value.bool (decide (Few L n))) (congrArg Value.bool (decide_eq_false (show ¬ (Few L n) from by intro hh; first | (have := hh.1; omega) | (have := hh.2 j (by omega) (by omega); omega))).symm) rfl
      ·
        refine vc_skip ?_
        refine vc_region ?_
        refine oq (qv_add rfl rfl (by omega)) ?_
        refine oq (qv_mv (Value.int .i64 (j + 1)) rfl) ?_
        refine ops_nil ?_
        refine ⟨(j + 1), ⟨rfl, rfl, rfl, rfl, rfl, (congrArg (Value.int .i64) (show (j + 1) = ((j + 1)) from by omega)), trivial⟩, ⟨rfl, rfl, by omega, by omega, all_snoc hno (by omega)⟩, by omega⟩
    ·
      refine vc_exit ?_
      refine blockQ_hit ?_
      refine vc_seq ?_
      refine vc_region ?_
      refine oq (qv_as (Value.bool true) rfl) ?_
      refine ops_nil ?_
      refine vc_ret ?_
      exact rq1 (Value.bool (decide (Few L n))) (congrArg Value.bool (decide_eq_true (show (Few L n) from by exact ⟨by omega, fun i a b => hno i a (by omega)⟩)).symm) rfl

set_option maxRecDepth 100000 in
theorem check_c {V : HV} {l : Value} {rv : List Value} {L : List (List Int)} (hl : Mat .i64 V l rv L) :
    FnC Try.prog 14 [l] V [] (fun v _ _ => v = (Value.int .i64 (chk L))) := by
  refine fn_intro (N := 58) Try.func14 (by kernel_rfl) rfl rfl rfl (Nat.le_of_ble_eq_true rfl) ?_
  intro w0 D
  have hlen := hl.len
  have hbd := hl.sl.bound
  refine vc_seq ?_
  refine vc_region ?_
  refine oq (qv_as (Value.int .i64 0) rfl) ?_
  refine ops_nil ?_
  refine vc_seq ?_
  refine vc_seq ?_
  refine vc_region ?_
  refine oq (qv_mv l rfl) ?_
  refine oq (qv_lenS Try.underlying23 rfl hl.sl) ?_
  refine oq (qv_lss rfl rfl) ?_
  refine ops_nil ?_
  refine vc_if rfl (fun c1 => ?_) (fun c1 => ?_)
  ·
    refine vc_seq ?_
    refine vc_region ?_
    refine oq (qv_as (Value.int .i64 1) rfl) ?_
    refine ops_nil ?_
    refine vc_ret ?_
    exact rq1 (Value.int .i64 (chk L)) (congrArg (Value.int .i64) (show 1 = (chk L) from by rw [chk1 (by omega)])) rfl
  ·
    refine vc_skip ?_
    refine vc_seq ?_
    refine vc_seq ?_
    refine vc_region ?_
    refine oq (qv_mv l rfl) ?_
    refine oq (qv_lenS Try.underlying23 rfl hl.sl) ?_
    refine oq (qv_gtr rfl rfl) ?_
    refine ops_nil ?_
    refine vc_if rfl (fun c2 => ?_) (fun c2 => ?_)
    ·
      refine vc_seq ?_
      refine vc_region ?_
      refine oq (qv_as (Value.int .i64 4) rfl) ?_
      refine ops_nil ?_
      refine vc_ret ?_
      exact rq1 (Value.int .i64 (chk L)) (congrArg (Value.int .i64) (show 4 = (chk L) from by rw [chk4 (by omega)])) rfl
    ·
      refine vc_skip ?_
      refine vc_seq ?_
      refine vc_seq ?_
      refine vc_region ?_
      refine oq (qv_mv l rfl) ?_
      refine oq (qv_lenS Try.underlying23 rfl hl.sl) ?_
      refine oq (qv_mv (Value.int .i64 0) rfl) ?_
      refine ops_nil ?_
      refine vc_block ?_
      refine vc_loop (α := Int) (fun (x : Int) => [(0, l), (11, (Value.bool (decide (((rv.length : Int)) < 1)))), (14, (Value.bool (decide (32 < ((rv.length : Int)))))), (15, l), (16, (Value.int .i64 ((rv.length : Int)))), (17, (Value.int .i64 x))]) (fun (x : Int) V' σ' => V = V' ∧ [] = σ' ∧ 0 ≤ x ∧ x ≤ rv.length ∧ ∀ i : Int, 0 ≤ i → i < x → (gr L i).length = L.length) (fun (x : Int) => (rv.length - x).toNat) (0) ?_ ?_ ?_
      · exact ⟨rfl, rfl, rfl, rfl, rfl, rfl, trivial⟩
      · exact ⟨rfl, rfl, by omega, by omega, fun i a b => by omega⟩
      rintro j e1 V0l σ0l hI0
      obtain ⟨rfl, rfl, i1, i2, hno⟩ : V = V0l ∧ [] = σ0l ∧ 0 ≤ j ∧ j ≤ rv.length ∧ ∀ i : Int, 0 ≤ i → i < j → (gr L i).length = L.length := hI0
      refine vc_seq ?_
      refine vc_region ?_
      refine oq (qv_lss rfl rfl) ?_
      refine ops_nil ?_
      refine vc_seq ?_
      refine vc_if rfl (fun c3 => ?_) (fun c3 => ?_)
      ·
        refine vc_skip ?_
        refine vc_seq ?_
        refine vc_block ?_
        refine vc_seq ?_
        refine vc_region ?_
        refine oq (qv_ia (v := l) (i := j) Try.underlying23 Try.size29 rfl (inV hl.sl) rfl (by omega) (by omega)) ?_
        refine oq (qv_ld (v := l) (i := j) Try.plain29 rfl (inV hl.sl) (by omega) (by omega)) ?_
        refine oq (qv_as (gv rv (j)) rfl) ?_
        refine ops_nil ?_
        refine vc_seq ?_
        refine vc_region ?_
        refine oq (qv_mv (gv rv (j)) rfl) ?_
        refine oq (qv_lenI Try.underlying29 rfl (hl.row (j) (by omega) (by omega))) ?_
        refine oq (qv_mv l rfl) ?_
        refine oq (qv_lenS Try.underlying23 rfl hl.sl) ?_
        refine oq (qv_neq rfl rfl) ?_
        refine ops_nil ?_
        refine vc_if rfl (fun c4 => ?_) (fun c4 => ?_)
        ·
          refine vc_seq ?_
          refine vc_region ?_
          refine oq (qv_as (Value.int .i64 2) rfl) ?_
          refine ops_nil ?_
          refine vc_ret ?_
          refine blockQ_ret ?_
          refine blockQ_ret ?_
          exact rq1 (Value.int .i64 (chk L)) (congrArg (Value.int .i64) (show 2 = (chk L) from by rw [chk2 (by omega) (by omega) ⟨j, by omega, by omega, by omega⟩])) rfl
        ·
          refine vc_skip ?_
          refine vc_region ?_
          refine oq (qv_add rfl rfl (by omega)) ?_
          refine oq (qv_mv (Value.int .i64 (j + 1)) rfl) ?_
          refine ops_nil ?_
          refine ⟨(j + 1), ⟨rfl, rfl, rfl, rfl, rfl, (congrArg (Value.int .i64) (show (j + 1) = ((j + 1)) from by omega)), trivial⟩, ⟨rfl, rfl, by omega, by omega, all_snoc hno (by omega)⟩, by omega⟩
      ·
        refine vc_exit ?_
        refine blockQ_hit ?_
        refine vc_seq ?_
        refine vc_seq ?_
        have hrag : ¬ Ragged L := fun ⟨i, a, b, c⟩ => c (hno i a (by omega))
        refine vc_region ?_
        refine oq (qv_mv l rfl) ?_
        refine oq (qv_lenS Try.underlying23 rfl hl.sl) ?_
        refine oq (qv_mv (Value.int .i64 0) rfl) ?_
        refine ops_nil ?_
        refine vc_block ?_
        refine vc_loop (α := Int) (fun (x : Int) => [(0, l), (11, (Value.bool (decide (((rv.length : Int)) < 1)))), (14, (Value.bool (decide (32 < ((rv.length : Int)))))), (15, l), (16, (Value.int .i64 ((rv.length : Int)))), (17, (Value.int .i64 j)), (18, (Value.bool (decide (j < ((rv.length : Int)))))), (27, l), (28, (Value.int .i64 ((rv.length : Int)))), (29, (Value.int .i64 x))]) (fun (x : Int) V' σ' => V = V' ∧ [] = σ' ∧ 0 ≤ x ∧ x ≤ rv.length ∧ ∀ i : Int, 0 ≤ i → i < x → ∀ j : Int, 0 ≤ j → j < L.length → ¬ Bad L i j) (fun (x : Int) => (rv.length - x).toNat) (0) ?_ ?_ ?_
        · exact ⟨rfl, rfl, rfl, rfl, rfl, rfl, rfl, rfl, rfl, rfl, trivial⟩
        · exact ⟨rfl, rfl, by omega, by omega, fun i a b => by omega⟩
        rintro p e2 V1l σ1l hI1
        obtain ⟨rfl, rfl, i3, i4, hp⟩ : V = V1l ∧ [] = σ1l ∧ 0 ≤ p ∧ p ≤ rv.length ∧ ∀ i : Int, 0 ≤ i → i < p → ∀ j : Int, 0 ≤ j → j < L.length → ¬ Bad L i j := hI1
        refine vc_seq ?_
        refine vc_region ?_
        refine oq (qv_lss rfl rfl) ?_
        refine ops_nil ?_
        refine vc_seq ?_
        refine vc_if rfl (fun c5 => ?_) (fun c5 => ?_)
        ·
          refine vc_skip ?_
          refine vc_seq ?_
          refine vc_block ?_
          refine vc_seq ?_
          refine vc_region ?_
          refine oq (qv_mv (Value.int .i64 p) rfl) ?_
          refine oq (qv_ia (v := l) (i := p) Try.underlying23 Try.size29 rfl (inV hl.sl) rfl (by omega) (by omega)) ?_
          refine oq (qv_ld (v := l) (i := p) Try.plain29 rfl (inV hl.sl) (by omega) (by omega)) ?_
          refine oq (qv_as (Value.int .i64 p) rfl) ?_
          refine oq (qv_as (gv rv (p)) rfl) ?_
          refine ops_nil ?_
          refine vc_seq ?_
          have hrp : (gr L p).length = L.length := hno p (by omega) (by omega)
          have hrb := (hl.row p (by omega) (by omega)).bound
          refine vc_region ?_
          refine oq (qv_mv (gv rv (p)) rfl) ?_
          refine oq (qv_lenI Try.underlying29 rfl (hl.row (p) (by omega) (by omega))) ?_
          refine oq (qv_mv (Value.int .i64 0) rfl) ?_
          refine ops_nil ?_
          refine vc_block ?_
          refine vc_loop (α := Int) (fun (x : Int) => [(0, l), (5, (Value.int .i64 p)), (6, (gv rv (p))), (11, (Value.bool (decide (((rv.length : Int)) < 1)))), (14, (Value.bool (decide (32 < ((rv.length : Int)))))), (15, l), (16, (Value.int .i64 ((rv.length : Int)))), (17, (Value.int .i64 j)), (18, (Value.bool (decide (j < ((rv.length : Int)))))), (27, l), (28, (Value.int .i64 ((rv.length : Int)))), (29, (Value.int .i64 p)), (30, (Value.bool (decide (p < ((rv.length : Int)))))), (34, (gv rv (p))), (35, (Value.int .i64 (((gr L (p)).length : Int)))), (36, (Value.int .i64 x))]) (fun (x : Int) V' σ' => V = V' ∧ [] = σ' ∧ 0 ≤ x ∧ x ≤ (gr L p).length ∧ ∀ j : Int, 0 ≤ j → j < x → ¬ Bad L p j) (fun (x : Int) => ((gr L p).length - x).toNat) (0) ?_ ?_ ?_
          · exact ⟨rfl, rfl, rfl, rfl, rfl, rfl, rfl, rfl, rfl, rfl, rfl, rfl, rfl, rfl, rfl, rfl, trivial⟩
          · exact ⟨rfl, rfl, by omega, by omega, fun j a b => by omega⟩
          rintro q e3 V2l σ2l hI2
          obtain ⟨rfl, rfl, i5, i6, hq⟩ : V = V2l ∧ [] = σ2l ∧ 0 ≤ q ∧ q ≤ (gr L p).length ∧ ∀ j : Int, 0 ≤ j → j < q → ¬ Bad L p j := hI2
          refine vc_seq ?_
          refine vc_region ?_
          refine oq (qv_lss rfl rfl) ?_
          refine ops_nil ?_
          refine vc_seq ?_
          refine vc_if rfl (fun c6 => ?_) (fun c6 => ?_)
          ·
            refine vc_skip ?_
            refine vc_seq ?_
            refine vc_block ?_
            refine vc_seq ?_
            refine vc_region ?_
            refine oq (qv_mv (Value.int .i64 q) rfl) ?_
            refine oq (qv_iai (v := (gv rv (p))) (i := q) Try.underlying29 Try.size3 rfl (inVi (hl.row (p) (by omega) (by omega))) rfl (by omega) (by omega)) ?_
            refine oq (qv_ldi (v := (gv rv (p))) (i := q) Try.plain3 rfl (inVi (hl.row (p) (by omega) (by omega))) (by omega) (by omega)) ?_
            refine oq (qv_as (Value.int .i64 q) rfl) ?_
            refine oq (qv_as (Value.int .i64 (gi (gr L (p)) (q))) rfl) ?_
            refine ops_nil ?_
            refine vc_seq ?_
            refine vc_region ?_
            refine oq (qv_mv (Value.int .i64 (gi (gr L (p)) (q))) rfl) ?_
            refine oq (qv_lss rfl rfl) ?_
            refine oq (qv_mv (Value.bool (decide ((gi (gr L (p)) (q)) < 0))) rfl) ?_
            by_cases g1 : (gi (gr L (p)) (q)) < 0
            ·
              refine os (want_fn g1 rfl rfl rfl) ?_
              refine os (want_fn g1 rfl rfl rfl) ?_
              refine oq (qv_pick_t g1 rfl (rfl : ev _ _ = (Value.bool true))) ?_
              refine oq (qv_mv (Value.bool true) rfl) ?_
              refine os (want_fnc rfl rfl rfl) ?_
              refine os (want_fnc rfl rfl rfl) ?_
              refine os (want_fnc rfl rfl rfl) ?_
              refine os (want_fnc rfl rfl rfl) ?_
              refine os (want_u rfl rfl rfl) ?_
              refine os (want_u rfl rfl rfl) ?_
              refine os (want_fnc rfl rfl rfl) ?_
              refine oq (qv_pick_tc rfl (rfl : ev _ _ = (Value.bool true))) ?_
              refine ops_nil ?_
              refine vc_tt rfl ?_
              refine vc_seq ?_
              refine vc_region ?_
              refine oq (qv_as (Value.int .i64 3) rfl) ?_
              refine ops_nil ?_
              refine vc_ret ?_
              refine blockQ_ret ?_
              refine blockQ_ret ?_
              refine blockQ_ret ?_
              refine blockQ_ret ?_
              exact rq1 (Value.int .i64 (chk L)) (congrArg (Value.int .i64) (show 3 = (chk L) from by rw [chk3 (by omega) (by omega) hrag ⟨p, q, by omega, by omega, by omega, by omega, by unfold Bad; omega⟩])) rfl
            ·
              refine og (qv_mv (Value.int .i64 (gi (gr L (p)) (q))) rfl) (want_f g1 rfl rfl rfl) ?_
              refine og (qv_gtr rfl rfl) (want_f g1 rfl rfl rfl) ?_
              refine oq (qv_pick_f g1 rfl (rfl : ev _ _ = (Value.bool (decide (1048576 < (gi (gr L (p)) (q))))))) ?_
              refine oq (qv_mv (Value.bool (decide (1048576 < (gi (gr L (p)) (q))))) rfl) ?_
              by_cases g2 : 1048576 < (gi (gr L (p)) (q))
              ·
                refine os (want_fn g2 rfl rfl rfl) ?_
                refine os (want_fn g2 rfl rfl rfl) ?_
                refine os (want_fn g2 rfl rfl rfl) ?_
                refine os (want_fn g2 rfl rfl rfl) ?_
                refine os (want_u rfl rfl rfl) ?_
                refine os (want_u rfl rfl rfl) ?_
                refine os (want_fn g2 rfl rfl rfl) ?_
                refine oq (qv_pick_t g2 rfl (rfl : ev _ _ = (Value.bool true))) ?_
                refine ops_nil ?_
                refine vc_tt rfl ?_
                refine vc_seq ?_
                refine vc_region ?_
                refine oq (qv_as (Value.int .i64 3) rfl) ?_
                refine ops_nil ?_
                refine vc_ret ?_
                refine blockQ_ret ?_
                refine blockQ_ret ?_
                refine blockQ_ret ?_
                refine blockQ_ret ?_
                exact rq1 (Value.int .i64 (chk L)) (congrArg (Value.int .i64) (show 3 = (chk L) from by rw [chk3 (by omega) (by omega) hrag ⟨p, q, by omega, by omega, by omega, by omega, by unfold Bad; omega⟩])) rfl
              ·
                refine og (qv_mv (Value.int .i64 p) rfl) (want_f g2 rfl rfl rfl) ?_
                refine og (qv_mv (Value.int .i64 q) rfl) (want_f g2 rfl rfl rfl) ?_
                refine og (qv_eql rfl rfl) (want_f g2 rfl rfl rfl) ?_
                refine og (qv_mv (Value.bool (decide (p = q))) rfl) (want_f g2 rfl rfl rfl) ?_
                by_cases g3 : p = q
                ·
                  refine og (qv_mv (Value.int .i64 (gi (gr L (p)) (q))) rfl) (want_t g3 rfl rfl rfl) ?_
                  refine og (qv_neq rfl rfl) (want_t g3 rfl rfl rfl) ?_
                  refine og (qv_pick_t g3 rfl (rfl : ev _ _ = (Value.bool (decide ((gi (gr L (p)) (q)) ≠ 0))))) (want_f g2 rfl rfl rfl) ?_
                  refine oq (qv_pick_f g2 rfl (rfl : ev _ _ = (Value.bool (decide ((gi (gr L (p)) (q)) ≠ 0))))) ?_
                  refine ops_nil ?_
                  refine vc_if rfl (fun c7 => ?_) (fun c7 => ?_)
                  ·
                    refine vc_seq ?_
                    refine vc_region ?_
                    refine oq (qv_as (Value.int .i64 3) rfl) ?_
                    refine ops_nil ?_
                    refine vc_ret ?_
                    refine blockQ_ret ?_
                    refine blockQ_ret ?_
                    refine blockQ_ret ?_
                    refine blockQ_ret ?_
                    exact rq1 (Value.int .i64 (chk L)) (congrArg (Value.int .i64) (show 3 = (chk L) from by rw [chk3 (by omega) (by omega) hrag ⟨p, q, by omega, by omega, by omega, by omega, by unfold Bad; omega⟩])) rfl
                  ·
                    refine vc_skip ?_
                    refine vc_region ?_
                    refine oq (qv_add rfl rfl (by omega)) ?_
                    refine oq (qv_mv (Value.int .i64 (q + 1)) rfl) ?_
                    refine ops_nil ?_
                    refine ⟨(q + 1), ⟨rfl, rfl, rfl, rfl, rfl, rfl, rfl, rfl, rfl, rfl, rfl, rfl, rfl, rfl, rfl, (congrArg (Value.int .i64) (show (q + 1) = ((q + 1)) from by omega)), trivial⟩, ⟨rfl, rfl, by omega, by omega, all_snoc hq (by unfold Bad; omega)⟩, by omega⟩
                ·
                  refine os (want_tn g3 rfl rfl rfl) ?_
                  refine os (want_tn g3 rfl rfl rfl) ?_
                  refine og (qv_pick_f g3 rfl (rfl : ev _ _ = (Value.bool false))) (want_f g2 rfl rfl rfl) ?_
                  refine oq (qv_pick_f g2 rfl (rfl : ev _ _ = (Value.bool false))) ?_
                  refine ops_nil ?_
                  refine vc_ff rfl ?_
                  refine vc_skip ?_
                  refine vc_region ?_
                  refine oq (qv_add rfl rfl (by omega)) ?_
                  refine oq (qv_mv (Value.int .i64 (q + 1)) rfl) ?_
                  refine ops_nil ?_
                  refine ⟨(q + 1), ⟨rfl, rfl, rfl, rfl, rfl, rfl, rfl, rfl, rfl, rfl, rfl, rfl, rfl, rfl, rfl, (congrArg (Value.int .i64) (show (q + 1) = ((q + 1)) from by omega)), trivial⟩, ⟨rfl, rfl, by omega, by omega, all_snoc hq (by unfold Bad; omega)⟩, by omega⟩
          ·
            refine vc_exit ?_
            refine blockQ_hit ?_
            refine vc_region ?_
            refine oq (qv_add rfl rfl (by omega)) ?_
            refine oq (qv_mv (Value.int .i64 (p + 1)) rfl) ?_
            refine ops_nil ?_
            refine ⟨(p + 1), ⟨rfl, rfl, rfl, rfl, rfl, rfl, rfl, rfl, rfl, (congrArg (Value.int .i64) (show (p + 1) = ((p + 1)) from by omega)), trivial⟩, ⟨rfl, rfl, by omega, by omega, all_snoc hp (fun j c d => hq j c (by omega))⟩, by omega⟩
        ·
          refine vc_exit ?_
          refine blockQ_hit ?_
          refine vc_seq ?_
          refine vc_region ?_
          refine oq (qv_as (Value.int .i64 0) rfl) ?_
          refine ops_nil ?_
          refine vc_ret ?_
          exact rq1 (Value.int .i64 (chk L)) (congrArg (Value.int .i64) (show 0 = (chk L) from by rw [chk0 (by omega) (by omega) hrag (fun ⟨i, j, a, b, c, d, e⟩ => hp i a (by omega) j c d e)])) rfl

set_option maxRecDepth 100000 in
theorem Check_c {V : HV} {l : Value} {rv : List Value} {L : List (List Int)} (hl : Mat .i64 V l rv L) :
    FnC Try.prog 13 [l] V [] (fun v _ _ => v = (Value.int .i64 (chk L))) := by
  refine fn_intro (N := 33) Try.func13 (by kernel_rfl) rfl rfl rfl (Nat.le_of_ble_eq_true rfl) ?_
  intro w0 D
  have hlen := hl.len
  have hbd := hl.sl.bound
  refine vc_seq ?_
  refine vc_region ?_
  refine ops_box (v := l) (cs := [l]) rfl hl.sl.cells (fun b1 => ?_)
  refine oq (qv_as (Value.int .i64 0) rfl) ?_
  refine ops_nil ?_
  refine vc_seq ?_
  refine vc_block ?_
  refine vc_seq ?_
  refine vc_freeze (b := b1) (o := .cells ([l] : List Value).toArray 23 (0, 0)) (σr := []) (.refl _) (fun Vf1 hVf1 hb1 => ?_)
  have hc1 : Cells Vf1 b1 [l] := ⟨_, _, hb1⟩
  have hl := hl.mono hVf1
  refine vc_region ?_
  refine oq (qv_ldp (v := l) Try.plain23 rfl (inVc hc1) rfl) ?_
  refine oq (qv_lenS Try.underlying23 rfl hl.sl) ?_
  refine oq (qv_eql rfl rfl) ?_
  refine oq (qv_as (Value.bool (decide (((rv.length : Int)) = 0))) rfl) ?_
  refine ops_nil ?_
  refine vc_if rfl (fun c1 => ?_) (fun c1 => ?_)
  ·
    refine vc_seq ?_
    refine vc_region ?_
    refine oq (qv_as (Value.int .i64 1) rfl) ?_
    refine ops_nil ?_
    refine vc_ret ?_
    refine blockQ_ret ?_
    exact rq1 (Value.int .i64 (chk L)) (congrArg (Value.int .i64) (show 1 = (chk L) from by rw [chk1 (by omega)])) rfl
  ·
    refine vc_seq ?_
    refine vc_region ?_
    refine oq (qv_ldp (v := l) Try.plain23 rfl (inVc hc1) rfl) ?_
    refine oq (qv_lenS Try.underlying23 rfl hl.sl) ?_
    refine oq (qv_gtr rfl rfl) ?_
    refine oq (qv_as (Value.bool (decide (32 < ((rv.length : Int))))) rfl) ?_
    refine ops_nil ?_
    refine vc_if rfl (fun c2 => ?_) (fun c2 => ?_)
    ·
      refine vc_seq ?_
      refine vc_region ?_
      refine oq (qv_as (Value.int .i64 4) rfl) ?_
      refine ops_nil ?_
      refine vc_ret ?_
      refine blockQ_ret ?_
      exact rq1 (Value.int .i64 (chk L)) (congrArg (Value.int .i64) (show 4 = (chk L) from by rw [chk4 (by omega)])) rfl
    ·
      refine vc_skip ?_
      refine vc_seq ?_
      refine vc_seq ?_
      refine vc_region ?_
      refine oq (qv_ldp (v := l) Try.plain23 rfl (inVc hc1) rfl) ?_
      refine oq (qv_func (cs := [(Value.pointer (some ⟨b1, 0, none⟩))]) rfl) ?_
      refine oq (qv_call (v := (Value.bool (decide (∃ i : Int, 0 ≤ i ∧ i < rv.length ∧ (fun i => (gr L i).length ≠ rv.length) i)))) (conL_c (fid := 29) (caps := [(Value.pointer (some ⟨b1, 0, none⟩))]) (p := fun i => (gr L i).length ≠ rv.length) hl.sl (fun i a b => (ck1_c (hl.row i a (by omega)) hl.sl hc1).boolI)) rfl rfl) ?_
      refine ops_nil ?_
      refine vc_if rfl (fun c3 => ?_) (fun c3 => ?_)
      ·
        refine vc_seq ?_
        refine vc_region ?_
        refine oq (qv_as (Value.int .i64 2) rfl) ?_
        refine ops_nil ?_
        refine vc_ret ?_
        exact rq1 (Value.int .i64 (chk L)) (congrArg (Value.int .i64) (show 2 = (chk L) from by rw [chk2 (by omega) (by omega) (by obtain ⟨i, a, b, c⟩ := c3; have c : (gr L i).length ≠ rv.length := c; exact ⟨i, a, by omega, by omega⟩)])) rfl
      ·
        refine vc_skip ?_
        refine vc_seq ?_
        refine vc_seq ?_
        have hrag : ¬ Ragged L := fun ⟨i, a, b, c⟩ => c3 ⟨i, a, by omega, by show (gr L i).length ≠ rv.length; omega⟩
        have hrow : ∀ i : Int, 0 ≤ i → i < L.length → (gr L i).length = L.length := fun i a b => Decidable.not_not.1 fun c => hrag ⟨i, a, b, c⟩
        refine vc_region ?_
        refine oq (qv_ldp (v := l) Try.plain23 rfl (inVc hc1) rfl) ?_
        refine oq (qv_lenS Try.underlying23 rfl hl.sl) ?_
        refine oq (qv_mv (Value.int .i64 0) rfl) ?_
        refine ops_nil ?_
        refine vc_block ?_
        refine vc_loop (α := Int) (fun (x : Int) => [(0, l), (1, (Value.pointer (some ⟨b1, 0, none⟩))), (5, (Value.bool (decide (((rv.length : Int)) = 0)))), (9, (Value.bool (decide (32 < ((rv.length : Int)))))), (15, (Value.bool (decide (∃ i : Int, 0 ≤ i ∧ i < rv.length ∧ (fun i => (gr L i).length ≠ rv.length) i)))), (16, l), (17, (Value.int .i64 ((rv.length : Int)))), (18, (Value.int .i64 x))]) (fun (x : Int) V' σ' => Vf1 = V' ∧ [] = σ' ∧ 0 ≤ x ∧ x ≤ rv.length ∧ ∀ i : Int, 0 ≤ i → i < x → ∀ j : Int, 0 ≤ j → j < L.length → ¬ Bad L i j) (fun (x : Int) => (rv.length - x).toNat) (0) ?_ ?_ ?_
        · exact ⟨rfl, rfl, rfl, rfl, rfl, rfl, rfl, rfl, trivial⟩
        · exact ⟨rfl, rfl, by omega, by omega, fun i a b => by omega⟩
        rintro p e1 V0l σ0l hI0
        obtain ⟨rfl, rfl, i1, i2, hp⟩ : Vf1 = V0l ∧ [] = σ0l ∧ 0 ≤ p ∧ p ≤ rv.length ∧ ∀ i : Int, 0 ≤ i → i < p → ∀ j : Int, 0 ≤ j → j < L.length → ¬ Bad L i j := hI0
        refine vc_seq ?_
        refine vc_region ?_
        refine oq (qv_lss rfl rfl) ?_
        refine ops_nil ?_
        refine vc_seq ?_
        refine vc_if rfl (fun c4 => ?_) (fun c4 => ?_)
        ·
          refine vc_skip ?_
          refine vc_seq ?_
          refine vc_block ?_
          refine vc_seq ?_
          refine vc_region ?_
          refine oq (qv_mv (Value.int .i64 p) rfl) ?_
          refine oq (qv_ia (v := l) (i := p) Try.underlying23 Try.size29 rfl (inV hl.sl) rfl (by omega) (by omega)) ?_
          refine oq (qv_ld (v := l) (i := p) Try.plain29 rfl (inV hl.sl) (by omega) (by omega)) ?_
          refine oq (qv_as (Value.int .i64 p) rfl) ?_
          refine oq (qv_as (gv rv (p)) rfl) ?_
          refine ops_nil ?_
          refine vc_seq ?_
          have hrp : (gr L p).length = L.length := hrow p (by omega) (by omega)
          have hrb := (hl.row p (by omega) (by omega)).bound
          refine vc_region ?_
          refine oq (qv_mv (gv rv (p)) rfl) ?_
          refine oq (qv_mv (Value.int .i64 p) rfl) ?_
          refine oq (qv_iai (v := (gv rv (p))) (i := p) Try.underlying29 Try.size3 rfl (inVi (hl.row (p) (by omega) (by omega))) rfl (by omega) (by omega)) ?_
          refine oq (qv_ldi (v := (gv rv (p))) (i := p) Try.plain3 rfl (inVi (hl.row (p) (by omega) (by omega))) (by omega) (by omega)) ?_
          refine oq (qv_neq rfl rfl) ?_
          refine oq (qv_mv (Value.bool (decide ((gi (gr L (p)) (p)) ≠ 0))) rfl) ?_
          by_cases g1 : (gi (gr L (p)) (p)) ≠ 0
          ·
            refine os (want_fn g1 rfl rfl rfl) ?_
            refine os (want_fn g1 rfl rfl rfl) ?_
            refine oq (qv_pick_t g1 rfl (rfl : ev _ _ = (Value.bool true))) ?_
            refine ops_nil ?_
            refine vc_tt rfl ?_
            refine vc_seq ?_
            refine vc_region ?_
            refine oq (qv_as (Value.int .i64 3) rfl) ?_
            refine ops_nil ?_
            refine vc_ret ?_
            refine blockQ_ret ?_
            refine blockQ_ret ?_
            exact rq1 (Value.int .i64 (chk L)) (congrArg (Value.int .i64) (show 3 = (chk L) from by rw [chk3 (by omega) (by omega) hrag (by first | exact ⟨p, p, by omega, by omega, by omega, by omega, by unfold Bad; omega⟩ | (obtain ⟨i, a, b, c⟩ := trivial; exact ⟨p, i, by omega, by omega, a, by simp only [List.length_map] at b; omega, by rcases c with c | c; exact Or.inl c; exact Or.inr (Or.inl c)⟩))])) rfl
          ·
            refine og (qv_mv (gv rv (p)) rfl) (want_f g1 rfl rfl rfl) ?_
            refine og (qv_call (v := (Value.bool (decide (∃ i : Int, 0 ≤ i ∧ i < ((gr L p).map (Value.int .i64)).length ∧ (fun i => gi (gr L p) i < 0 ∨ 1048576 < gi (gr L p) i) i)))) (conI_c (fid := 31) (caps := []) (p := fun i => gi (gr L p) i < 0 ∨ 1048576 < gi (gr L p) i) (hl.row p (by omega) (by omega)) (fun i a b => by rw [gv_ints a (by simpa using b)]; exact ck2_c.boolI)) rfl rfl) (want_f g1 rfl rfl rfl) ?_
            refine oq (qv_pick_f g1 rfl (rfl : ev _ _ = (Value.bool (decide (∃ i : Int, 0 ≤ i ∧ i < ((gr L p).map (Value.int .i64)).length ∧ (fun i => gi (gr L p) i < 0 ∨ 1048576 < gi (gr L p) i) i))))) ?_
            refine ops_nil ?_
            refine vc_if rfl (fun c5 => ?_) (fun c5 => ?_)
            ·
              refine vc_seq ?_
              refine vc_region ?_
              refine oq (qv_as (Value.int .i64 3) rfl) ?_
              refine ops_nil ?_
              refine vc_ret ?_
              refine blockQ_ret ?_
              refine blockQ_ret ?_
              exact rq1 (Value.int .i64 (chk L)) (congrArg (Value.int .i64) (show 3 = (chk L) from by rw [chk3 (by omega) (by omega) hrag (by first | exact ⟨p, p, by omega, by omega, by omega, by omega, by unfold Bad; omega⟩ | (obtain ⟨i, a, b, c⟩ := c5; exact ⟨p, i, by omega, by omega, a, by simp only [List.length_map] at b; omega, by rcases c with c | c; exact Or.inl c; exact Or.inr (Or.inl c)⟩))])) rfl
            ·
              refine vc_skip ?_
              refine vc_region ?_
              refine oq (qv_add rfl rfl (by omega)) ?_
              refine oq (qv_mv (Value.int .i64 (p + 1)) rfl) ?_
              refine ops_nil ?_
              refine ⟨(p + 1), ⟨rfl, rfl, rfl, rfl, rfl, rfl, rfl, (congrArg (Value.int .i64) (show (p + 1) = ((p + 1)) from by omega)), trivial⟩, ⟨rfl, rfl, by omega, by omega, all_snoc hp (fun j c d hb => by rcases hb with hb | hb | ⟨rfl, hb⟩; exact c5 ⟨j, c, by simp only [List.length_map]; omega, Or.inl hb⟩; exact c5 ⟨j, c, by simp only [List.length_map]; omega, Or.inr hb⟩; omega)⟩, by omega⟩
        ·
          refine vc_exit ?_
          refine blockQ_hit ?_
          refine vc_seq ?_
          refine vc_region ?_
          refine oq (qv_as (Value.int .i64 0) rfl) ?_
          refine ops_nil ?_
          refine vc_ret ?_
          exact rq1 (Value.int .i64 (chk L)) (congrArg (Value.int .i64) (show 0 = (chk L) from by rw [chk0 (by omega) (by omega) hrag (fun ⟨i, j, a, b, c, d, e⟩ => hp i a (by omega) j c d e)])) rfl

set_option maxRecDepth 100000 in
theorem interval_c {V : HV} {l : Value} {rv : List Value} {L : List (List Int)} {h i : Int} (hl : Mat .i64 V l rv L) (hg : Good L) (h0 : 0 ≤ h) (h1 : h ≤ i) (h2 : i ≤ L.length) :
    FnC Try.prog 57 [l, (Value.int .i64 h), (Value.int .i64 i)] V [] (fun v _ _ => v = (Value.int .i64 (ivTo L h.toNat i.toNat (i - h).toNat))) := by
  refine fn_intro (N := 31) Try.func57 (by kernel_rfl) rfl rfl rfl (Nat.le_of_ble_eq_true rfl) ?_
  intro w0 D
  have hlen := hl.len
  have hle := hg.le
  refine vc_seq ?_
  refine vc_region ?_
  refine oq (qv_as (Value.int .i64 0) rfl) ?_
  refine ops_nil ?_
  refine vc_seq ?_
  refine vc_region ?_
  refine oq (qv_as (Value.int .i64 0) rfl) ?_
  refine ops_nil ?_
  refine vc_seq ?_
  refine vc_seq ?_
  refine vc_region ?_
  refine oq (qv_mv (Value.int .i64 h) rfl) ?_
  refine oq (qv_as (Value.int .i64 h) rfl) ?_
  refine ops_nil ?_
  refine vc_block ?_
  refine vc_loop (α := Int) (fun (x : Int) => [(0, l), (1, (Value.int .i64 h)), (2, (Value.int .i64 i)), (6, (Value.int .i64 0)), (7, (Value.int .i64 (ivTo L h.toNat i.toNat (x - h).toNat))), (8, (Value.int .i64 x))]) (fun (x : Int) V' σ' => V = V' ∧ [] = σ' ∧ h ≤ x ∧ x ≤ i) (fun (x : Int) => (i - x).toNat) (h) ?_ ?_ ?_
  · exact ⟨rfl, rfl, rfl, rfl, (congrArg (Value.int .i64) (show 0 = (ivTo L h.toNat i.toNat (h - h).toNat) from by rw [show (h - h).toNat = 0 by omega]; rfl)), rfl, trivial⟩
  · exact ⟨rfl, rfl, by omega, by omega⟩
  rintro r e1 V0l σ0l hI0
  obtain ⟨rfl, rfl, i1, i2⟩ : V = V0l ∧ [] = σ0l ∧ h ≤ r ∧ r ≤ i := hI0
  refine vc_seq ?_
  refine vc_seq ?_
  refine vc_region ?_
  refine oq (qv_mv (Value.int .i64 r) rfl) ?_
  refine oq (qv_mv (Value.int .i64 i) rfl) ?_
  refine oq (qv_lss rfl rfl) ?_
  refine ops_nil ?_
  refine vc_if rfl (fun c1 => ?_) (fun c1 => ?_)
  ·
    refine vc_skip ?_
    refine vc_seq ?_
    refine vc_block ?_
    refine vc_seq ?_
    refine vc_region ?_
    refine oq (qv_mv l rfl) ?_
    refine oq (qv_mv (Value.int .i64 h) rfl) ?_
    refine oq (qv_mv (Value.int .i64 i) rfl) ?_
    refine oq (qv_mv (Value.int .i64 r) rfl) ?_
    refine oq (qv_call (v := (Value.int .i64 (wsum L r.toNat h.toNat (i - h).toNat))) (whole_c hl hg (by omega) (by omega) (by omega) (by omega) (by omega)) rfl rfl) ?_
    refine oq (qv_as (Value.int .i64 (wsum L r.toNat h.toNat (i - h).toNat)) rfl) ?_
    refine ops_nil ?_
    refine vc_seq ?_
    refine vc_region ?_
    refine oq (qv_mv (Value.int .i64 r) rfl) ?_
    refine oq (qv_mv (Value.int .i64 h) rfl) ?_
    refine oq (qv_eql rfl rfl) ?_
    refine oq (qv_mv (Value.bool (decide (r = h))) rfl) ?_
    by_cases g1 : r = h
    ·
      refine os (want_fn g1 rfl rfl rfl) ?_
      refine os (want_fn g1 rfl rfl rfl) ?_
      refine os (want_fn g1 rfl rfl rfl) ?_
      refine oq (qv_pick_t g1 rfl (rfl : ev _ _ = (Value.bool true))) ?_
      refine ops_nil ?_
      refine vc_tt rfl ?_
      refine vc_region ?_
      refine oq (qv_mv (Value.int .i64 (wsum L r.toNat h.toNat (i - h).toNat)) rfl) ?_
      refine oq (qv_as (Value.int .i64 (wsum L r.toNat h.toNat (i - h).toNat)) rfl) ?_
      refine ops_nil ?_
      refine vc_region ?_
      refine oq (qv_mv (Value.int .i64 r) rfl) ?_
      refine oq (qv_add rfl rfl (by omega)) ?_
      refine oq (qv_as (Value.int .i64 (r + 1)) rfl) ?_
      refine ops_nil ?_
      refine ⟨(r + 1), ⟨rfl, rfl, rfl, rfl, (congrArg (Value.int .i64) (show (wsum L r.toNat h.toNat (i - h).toNat) = (ivTo L h.toNat i.toNat ((r + 1) - h).toNat) from by rw [ivTo_step L h0 (by omega) (by omega)]; first | rw [if_pos (by omega)] | rw [if_neg (by omega)])), (congrArg (Value.int .i64) (show (r + 1) = ((r + 1)) from by rfl)), trivial⟩, ⟨rfl, rfl, by omega, by omega⟩, by omega⟩
    ·
      refine og (qv_mv (Value.int .i64 (wsum L r.toNat h.toNat (i - h).toNat)) rfl) (want_f g1 rfl rfl rfl) ?_
      refine og (qv_mv (Value.int .i64 (ivTo L h.toNat i.toNat (r - h).toNat)) rfl) (want_f g1 rfl rfl rfl) ?_
      refine og (qv_lss rfl rfl) (want_f g1 rfl rfl rfl) ?_
      refine oq (qv_pick_f g1 rfl (rfl : ev _ _ = (Value.bool (decide ((wsum L r.toNat h.toNat (i - h).toNat) < (ivTo L h.toNat i.toNat (r - h).toNat)))))) ?_
      refine ops_nil ?_
      refine vc_if rfl (fun c2 => ?_) (fun c2 => ?_)
      ·
        refine vc_region ?_
        refine oq (qv_mv (Value.int .i64 (wsum L r.toNat h.toNat (i - h).toNat)) rfl) ?_
        refine oq (qv_as (Value.int .i64 (wsum L r.toNat h.toNat (i - h).toNat)) rfl) ?_
        refine ops_nil ?_
        refine vc_region ?_
        refine oq (qv_mv (Value.int .i64 r) rfl) ?_
        refine oq (qv_add rfl rfl (by omega)) ?_
        refine oq (qv_as (Value.int .i64 (r + 1)) rfl) ?_
        refine ops_nil ?_
        refine ⟨(r + 1), ⟨rfl, rfl, rfl, rfl, (congrArg (Value.int .i64) (show (wsum L r.toNat h.toNat (i - h).toNat) = (ivTo L h.toNat i.toNat ((r + 1) - h).toNat) from by rw [ivTo_step L h0 (by omega) (by omega)]; first | rw [if_pos (by omega)] | rw [if_neg (by omega)])), (congrArg (Value.int .i64) (show (r + 1) = ((r + 1)) from by rfl)), trivial⟩, ⟨rfl, rfl, by omega, by omega⟩, by omega⟩
      ·
        refine vc_skip ?_
        refine vc_region ?_
        refine oq (qv_mv (Value.int .i64 r) rfl) ?_
        refine oq (qv_add rfl rfl (by omega)) ?_
        refine oq (qv_as (Value.int .i64 (r + 1)) rfl) ?_
        refine ops_nil ?_
        refine ⟨(r + 1), ⟨rfl, rfl, rfl, rfl, (congrArg (Value.int .i64) (show (ivTo L h.toNat i.toNat (r - h).toNat) = (ivTo L h.toNat i.toNat ((r + 1) - h).toNat) from by rw [ivTo_step L h0 (by omega) (by omega)]; first | rw [if_pos (by omega)] | rw [if_neg (by omega)])), (congrArg (Value.int .i64) (show (r + 1) = ((r + 1)) from by rfl)), trivial⟩, ⟨rfl, rfl, by omega, by omega⟩, by omega⟩
  ·
    refine vc_exit ?_
    refine blockQ_hit ?_
    refine vc_seq ?_
    refine vc_region ?_
    refine oq (qv_mv (Value.int .i64 (ivTo L h.toNat i.toNat (r - h).toNat)) rfl) ?_
    refine oq (qv_as (Value.int .i64 (ivTo L h.toNat i.toNat (r - h).toNat)) rfl) ?_
    refine ops_nil ?_
    refine vc_ret ?_
    exact rq1 (Value.int .i64 (ivTo L h.toNat i.toNat (i - h).toNat)) (congrArg (Value.int .i64) (show (ivTo L h.toNat i.toNat (r - h).toNat) = (ivTo L h.toNat i.toNat (i - h).toNat) from by rw [show r = i by omega])) rfl

set_option maxRecDepth 100000 in
theorem linterval_c {V : HV} {l : Value} {rv : List Value} {L : List (List Int)} {h i : Int} (hl : Mat .i64 V l rv L) (hg : Good L) (h0 : 0 ≤ h) (h1 : h ≤ i) (h2 : i ≤ L.length) :
    FnC Try.prog 38 [l, (Value.int .i64 h), (Value.int .i64 i)] V [] (fun v _ _ => v = (Value.int .i64 (ivTo L h.toNat i.toNat (i - h).toNat))) := by
  refine fn_intro (N := 42) Try.func38 (by kernel_rfl) rfl rfl rfl (Nat.le_of_ble_eq_true rfl) ?_
  intro w0 D
  have hlen := hl.len
  have hle := hg.le
  refine vc_seq ?_
  refine vc_region ?_
  refine oq (qv_as (Value.int .i64 0) rfl) ?_
  refine ops_nil ?_
  refine vc_seq ?_
  refine vc_region ?_
  refine oq (qv_as (Value.int .i64 0) rfl) ?_
  refine ops_nil ?_
  refine vc_seq ?_
  refine vc_seq ?_
  refine vc_region ?_
  refine oq (qv_mv (Value.int .i64 h) rfl) ?_
  refine oq (qv_as (Value.int .i64 h) rfl) ?_
  refine ops_nil ?_
  refine vc_block ?_
  refine vc_loop (α := Int) (fun (x : Int) => [(0, l), (1, (Value.int .i64 h)), (2, (Value.int .i64 i)), (6, (Value.int .i64 0)), (7, (Value.int .i64 (ivTo L h.toNat i.toNat (x - h).toNat))), (8, (Value.int .i64 x))]) (fun (x : Int) V' σ' => V = V' ∧ [] = σ' ∧ h ≤ x ∧ x ≤ i) (fun (x : Int) => (i - x).toNat) (h) ?_ ?_ ?_
  · exact ⟨rfl, rfl, rfl, rfl, (congrArg (Value.int .i64) (show 0 = (ivTo L h.toNat i.toNat (h - h).toNat) from by rw [show (h - h).toNat = 0 by omega]; rfl)), rfl, trivial⟩
  · exact ⟨rfl, rfl, by omega, by omega⟩
  rintro r e1 V0l σ0l hI0
  obtain ⟨rfl, rfl, i1, i2⟩ : V = V0l ∧ [] = σ0l ∧ h ≤ r ∧ r ≤ i := hI0
  refine vc_seq ?_
  refine vc_seq ?_
  refine vc_region ?_
  refine oq (qv_mv (Value.int .i64 r) rfl) ?_
  refine oq (qv_mv (Value.int .i64 i) rfl) ?_
  refine oq (qv_lss rfl rfl) ?_
  refine ops_nil ?_
  refine vc_if rfl (fun c1 => ?_) (fun c1 => ?_)
  ·
    refine vc_skip ?_
    refine vc_seq ?_
    refine vc_block ?_
    refine vc_seq ?_
    refine vc_region ?_
    refine oq (qv_as (Value.int .i64 0) rfl) ?_
    refine ops_nil ?_
    refine vc_seq ?_
    refine vc_seq ?_
    refine vc_region ?_
    refine oq (qv_mv (Value.int .i64 h) rfl) ?_
    refine oq (qv_as (Value.int .i64 h) rfl) ?_
    refine ops_nil ?_
    refine vc_block ?_
    refine vc_loop (α := Int) (fun (x : Int) => [(0, l), (1, (Value.int .i64 h)), (2, (Value.int .i64 i)), (6, (Value.int .i64 0)), (7, (Value.int .i64 (ivTo L h.toNat i.toNat (r - h).toNat))), (8, (Value.int .i64 r)), (14, (Value.bool (decide (r < i)))), (9, (Value.int .i64 (wsum L r.toNat h.toNat (x - h).toNat))), (10, (Value.int .i64 x))]) (fun (x : Int) V' σ' => V = V' ∧ [] = σ' ∧ h ≤ x ∧ x ≤ i) (fun (x : Int) => (i - x).toNat) (h) ?_ ?_ ?_
    · exact ⟨rfl, rfl, rfl, rfl, rfl, rfl, rfl, (congrArg (Value.int .i64) (show 0 = (wsum L r.toNat h.toNat (h - h).toNat) from by rw [show (h - h).toNat = 0 by omega]; rfl)), rfl, trivial⟩
    · exact ⟨rfl, rfl, by omega, by omega⟩
    rintro j e2 V1l σ1l hI1
    obtain ⟨rfl, rfl, i3, i4⟩ : V = V1l ∧ [] = σ1l ∧ h ≤ j ∧ j ≤ i := hI1
    refine vc_seq ?_
    refine vc_seq ?_
    refine vc_region ?_
    refine oq (qv_mv (Value.int .i64 j) rfl) ?_
    refine oq (qv_mv (Value.int .i64 i) rfl) ?_
    refine oq (qv_lss rfl rfl) ?_
    refine ops_nil ?_
    refine vc_if rfl (fun c2 => ?_) (fun c2 => ?_)
    ·
      refine vc_skip ?_
      refine vc_seq ?_
      refine vc_block ?_
      have e1 : wsum L r.toNat h.toNat (j - h).toNat + gi (gr L (j)) (r) = wsum L r.toNat h.toNat (j + 1 - h).toNat := by
        rw [show (j + 1 - h).toNat = (j - h).toNat + 1 by omega, wsum, show h.toNat + (j - h).toNat = j.toNat by omega]
      have e2 := wsum_bd hg (r := r.toNat) (h := h.toNat) (by omega) (j + 1 - h).toNat (by omega)
      have e3 := hg.row j (by omega) (by omega)
      refine vc_region ?_
      refine oq (qv_mv (Value.int .i64 (wsum L r.toNat h.toNat (j - h).toNat)) rfl) ?_
      refine oq (qv_mv l rfl) ?_
      refine oq (qv_mv (Value.int .i64 j) rfl) ?_
      refine oq (qv_ia (v := l) (i := j) Try.underlying23 Try.size29 rfl (inV hl.sl) rfl (by omega) (by omega)) ?_
      refine oq (qv_ld (v := l) (i := j) Try.plain29 rfl (inV hl.sl) (by omega) (by omega)) ?_
      refine oq (qv_mv (Value.int .i64 r) rfl) ?_
      refine oq (qv_iai (v := (gv rv (j))) (i := r) Try.underlying29 Try.size3 rfl (inVi (hl.row (j) (by omega) (by omega))) rfl (by omega) (by omega)) ?_
      refine oq (qv_ldi (v := (gv rv (j))) (i := r) Try.plain3 rfl (inVi (hl.row (j) (by omega) (by omega))) (by omega) (by omega)) ?_
      refine oq (qv_add rfl rfl (by omega)) ?_
      refine oq (qv_as (Value.int .i64 ((wsum L r.toNat h.toNat (j - h).toNat) + (gi (gr L (j)) (r)))) rfl) ?_
      refine ops_nil ?_
      refine vc_region ?_
      refine oq (qv_mv (Value.int .i64 j) rfl) ?_
      refine oq (qv_add rfl rfl (by omega)) ?_
      refine oq (qv_as (Value.int .i64 (j + 1)) rfl) ?_
      refine ops_nil ?_
      refine ⟨(j + 1), ⟨rfl, rfl, rfl, rfl, rfl, rfl, rfl, (congrArg (Value.int .i64) (show ((wsum L r.toNat h.toNat (j - h).toNat) + (gi (gr L (j)) (r))) = (wsum L r.toNat h.toNat ((j + 1) - h).toNat) from by exact e1)), (congrArg (Value.int .i64) (show (j + 1) = ((j + 1)) from by rfl)), trivial⟩, ⟨rfl, rfl, by omega, by omega⟩, by omega⟩
    ·
      refine vc_exit ?_
      refine blockQ_hit ?_
      refine vc_seq ?_
      refine vc_region ?_
      refine oq (qv_mv (Value.int .i64 r) rfl) ?_
      refine oq (qv_mv (Value.int .i64 h) rfl) ?_
      refine oq (qv_eql rfl rfl) ?_
      refine oq (qv_mv (Value.bool (decide (r = h))) rfl) ?_
      by_cases g1 : r = h
      ·
        refine os (want_fn g1 rfl rfl rfl) ?_
        refine os (want_fn g1 rfl rfl rfl) ?_
        refine os (want_fn g1 rfl rfl rfl) ?_
        refine oq (qv_pick_t g1 rfl (rfl : ev _ _ = (Value.bool true))) ?_
        refine ops_nil ?_
        refine vc_tt rfl ?_
        refine vc_region ?_
        refine oq (qv_mv (Value.int .i64 (wsum L r.toNat h.toNat (j - h).toNat)) rfl) ?_
        refine oq (qv_as (Value.int .i64 (wsum L r.toNat h.toNat (j - h).toNat)) rfl) ?_
        refine ops_nil ?_
        refine vc_region ?_
        refine oq (qv_mv (Value.int .i64 r) rfl) ?_
        refine oq (qv_add rfl rfl (by omega)) ?_
        refine oq (qv_as (Value.int .i64 (r + 1)) rfl) ?_
        refine ops_nil ?_
        refine ⟨(r + 1), ⟨rfl, rfl, rfl, rfl, (congrArg (Value.int .i64) (show (wsum L r.toNat h.toNat (j - h).toNat) = (ivTo L h.toNat i.toNat ((r + 1) - h).toNat) from by rw [ivTo_step L h0 (by omega) (by omega), show (i - h).toNat = (j - h).toNat by omega]; first | rw [if_pos (by omega)] | rw [if_neg (by omega)])), (congrArg (Value.int .i64) (show (r + 1) = ((r + 1)) from by rfl)), trivial⟩, ⟨rfl, rfl, by omega, by omega⟩, by omega⟩
      ·
        refine og (qv_mv (Value.int .i64 (wsum L r.toNat h.toNat (j - h).toNat)) rfl) (want_f g1 rfl rfl rfl) ?_
        refine og (qv_mv (Value.int .i64 (ivTo L h.toNat i.toNat (r - h).toNat)) rfl) (want_f g1 rfl rfl rfl) ?_
        refine og (qv_lss rfl rfl) (want_f g1 rfl rfl rfl) ?_
        refine oq (qv_pick_f g1 rfl (rfl : ev _ _ = (Value.bool (decide ((wsum L r.toNat h.toNat (j - h).toNat) < (ivTo L h.toNat i.toNat (r - h).toNat)))))) ?_
        refine ops_nil ?_
        refine vc_if rfl (fun c3 => ?_) (fun c3 => ?_)
        ·
          refine vc_region ?_
          refine oq (qv_mv (Value.int .i64 (wsum L r.toNat h.toNat (j - h).toNat)) rfl) ?_
          refine oq (qv_as (Value.int .i64 (wsum L r.toNat h.toNat (j - h).toNat)) rfl) ?_
          refine ops_nil ?_
          refine vc_region ?_
          refine oq (qv_mv (Value.int .i64 r) rfl) ?_
          refine oq (qv_add rfl rfl (by omega)) ?_
          refine oq (qv_as (Value.int .i64 (r + 1)) rfl) ?_
          refine ops_nil ?_
          refine ⟨(r + 1), ⟨rfl, rfl, rfl, rfl, (congrArg (Value.int .i64) (show (wsum L r.toNat h.toNat (j - h).toNat) = (ivTo L h.toNat i.toNat ((r + 1) - h).toNat) from by rw [ivTo_step L h0 (by omega) (by omega), show (i - h).toNat = (j - h).toNat by omega]; first | rw [if_pos (by omega)] | rw [if_neg (by omega)])), (congrArg (Value.int .i64) (show (r + 1) = ((r + 1)) from by rfl)), trivial⟩, ⟨rfl, rfl, by omega, by omega⟩, by omega⟩
        ·
          refine vc_skip ?_
          refine vc_region ?_
          refine oq (qv_mv (Value.int .i64 r) rfl) ?_
          refine oq (qv_add rfl rfl (by omega)) ?_
          refine oq (qv_as (Value.int .i64 (r + 1)) rfl) ?_
          refine ops_nil ?_
          refine ⟨(r + 1), ⟨rfl, rfl, rfl, rfl, (congrArg (Value.int .i64) (show (ivTo L h.toNat i.toNat (r - h).toNat) = (ivTo L h.toNat i.toNat ((r + 1) - h).toNat) from by rw [ivTo_step L h0 (by omega) (by omega), show (i - h).toNat = (j - h).toNat by omega]; first | rw [if_pos (by omega)] | rw [if_neg (by omega)])), (congrArg (Value.int .i64) (show (r + 1) = ((r + 1)) from by rfl)), trivial⟩, ⟨rfl, rfl, by omega, by omega⟩, by omega⟩
  ·
    refine vc_exit ?_
    refine blockQ_hit ?_
    refine vc_seq ?_
    refine vc_region ?_
    refine oq (qv_mv (Value.int .i64 (ivTo L h.toNat i.toNat (r - h).toNat)) rfl) ?_
    refine oq (qv_as (Value.int .i64 (ivTo L h.toNat i.toNat (r - h).toNat)) rfl) ?_
    refine ops_nil ?_
    refine vc_ret ?_
    exact rq1 (Value.int .i64 (ivTo L h.toNat i.toNat (i - h).toNat)) (congrArg (Value.int .i64) (show (ivTo L h.toNat i.toNat (r - h).toNat) = (ivTo L h.toNat i.toNat (i - h).toNat) from by rw [show r = i by omega])) rfl

end Go.Proofs.Ytmkbjhligjnagaa
