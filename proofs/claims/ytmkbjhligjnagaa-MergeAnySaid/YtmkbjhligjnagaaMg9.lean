/- Walks of merge: what each function returns. Printed by a program out of notes. -/
import Derived.Test.YtmkbjhligjnagaaMg8
import Derived.Test.YtmkbjhligjnagaaMgT
namespace Go.Proofs.Ytmkbjhligjnagaa
open Go.Vc
open Classical

set_option maxRecDepth 100000 in
theorem kinds_c {V : HV} {g : Value} {G : List Int} (hgg : Ints .i64 V g G) :
    FnC Try.prog 22 [g] V [] (fun v _ _ => v = (Value.int .i64 (kindsN G G.length))) := by
  refine fn_intro (N := 31) Try.func22 (by kernel_rfl) rfl rfl rfl (Nat.le_of_ble_eq_true rfl) ?_
  intro w0 D
  have hbg := hgg.bound
  refine vc_seq ?_
  refine vc_region ?_
  refine oq (qv_as (Value.int .i64 0) rfl) ?_
  refine ops_nil ?_
  refine vc_seq ?_
  refine vc_region ?_
  refine oq (qv_as (Value.int .i64 0) rfl) ?_
  refine ops_nil ?_
  refine vc_seq ?_
  refine vc_seq ?_
  refine vc_region ?_
  refine oq (qv_mv g rfl) ?_
  refine oq (qv_lenI Try.underlying29 rfl hgg) ?_
  refine oq (qv_mv (Value.int .i64 0) rfl) ?_
  refine ops_nil ?_
  refine vc_block ?_
  refine vc_loop (α := Int) (fun (xx : Int) => [(0, g), (2, (Value.int .i64 0)), (8, (Value.int .i64 ((G.length : Int)))), (3, (Value.int .i64 (kindsN G xx.toNat))), (9, (Value.int .i64 xx))]) (fun (xx : Int) V' σ' => V = V' ∧ [] = σ' ∧ 0 ≤ xx ∧ xx ≤ G.length) (fun (xx : Int) => (G.length - xx).toNat) (0) ?_ ?_ ?_
  · exact ⟨rfl, rfl, rfl, (congrArg (Value.int .i64) (show 0 = (kindsN G (0 : Int).toNat) from by rfl)), rfl, trivial⟩
  · exact ⟨rfl, rfl, by omega, by omega⟩
  rintro p e1 V0l σ0l hI0
  obtain ⟨rfl, rfl, ip, i1⟩ : V = V0l ∧ [] = σ0l ∧ 0 ≤ p ∧ p ≤ G.length := hI0
  refine vc_seq ?_
  refine vc_region ?_
  refine oq (qv_lss rfl rfl) ?_
  refine ops_nil ?_
  refine vc_seq ?_
  refine vc_if rfl (fun c1 => ?_) (fun c1 => ?_)
  ·
    refine vc_skip ?_
    refine vc_seq ?_
    refine vc_block ?_
    refine vc_seq ?_
    refine vc_region ?_
    refine oq (qv_mv (Value.int .i64 p) rfl) ?_
    refine oq (qv_as (Value.int .i64 p) rfl) ?_
    refine ops_nil ?_
    refine vc_seq ?_
    refine vc_region ?_
    refine oq (qv_as (Value.bool true) rfl) ?_
    refine ops_nil ?_
    refine vc_seq ?_
    refine vc_seq ?_
    refine vc_region ?_
    refine oq (qv_mv (Value.int .i64 p) rfl) ?_
    refine oq (qv_mv (Value.int .i64 0) rfl) ?_
    refine ops_nil ?_
    refine vc_block ?_
    refine vc_loop (α := Int) (fun (xx : Int) => [(0, g), (2, (Value.int .i64 0)), (3, (Value.int .i64 (kindsN G p.toNat))), (4, (Value.int .i64 p)), (8, (Value.int .i64 ((G.length : Int)))), (9, (Value.int .i64 p)), (10, (Value.bool (decide (p < ((G.length : Int)))))), (12, (Value.int .i64 p)), (5, (Value.bool (decide ((∀ y : Int, 0 ≤ y → y < xx → gi G y ≠ gi G p))))), (13, (Value.int .i64 xx))]) (fun (xx : Int) V' σ' => V = V' ∧ [] = σ' ∧ 0 ≤ xx ∧ xx ≤ p) (fun (xx : Int) => (p - xx).toNat) (0) ?_ ?_ ?_
    · exact ⟨rfl, rfl, rfl, rfl, rfl, rfl, rfl, rfl, (congrArg Value.bool (decide_eq_true (show ((∀ y : Int, 0 ≤ y → y < 0 → gi G y ≠ gi G p)) from by exact fun y a b => by omega)).symm), rfl, trivial⟩
    · exact ⟨rfl, rfl, by omega, by omega⟩
    rintro q e2 V1l σ1l hI1
    obtain ⟨rfl, rfl, i2, i3⟩ : V = V1l ∧ [] = σ1l ∧ 0 ≤ q ∧ q ≤ p := hI1
    refine vc_seq ?_
    refine vc_region ?_
    refine oq (qv_lss rfl rfl) ?_
    refine ops_nil ?_
    refine vc_seq ?_
    refine vc_if rfl (fun c2 => ?_) (fun c2 => ?_)
    ·
      refine vc_skip ?_
      refine vc_seq ?_
      refine vc_block ?_
      refine vc_seq ?_
      refine vc_region ?_
      refine oq (qv_mv (Value.int .i64 q) rfl) ?_
      refine oq (qv_as (Value.int .i64 q) rfl) ?_
      refine ops_nil ?_
      refine vc_seq ?_
      refine vc_region_any Try.mixed (by kernel_rfl) ?_
      refine qq (qv_mv g rfl) ?_
      refine qq (qv_mv (Value.int .i64 q) rfl) ?_
      refine qq (qv_iai (v := g) (i := q) Try.underlying29 Try.size3 rfl (inVi hgg) rfl (by omega) (by omega)) ?_
      refine qq (qv_ldi (v := g) (i := q) Try.plain3 rfl (inVi hgg) (by omega) (by omega)) ?_
      refine qq (qv_mv g rfl) ?_
      refine qq (qv_mv (Value.int .i64 p) rfl) ?_
      refine qq (qv_iai (v := g) (i := p) Try.underlying29 Try.size3 rfl (inVi hgg) rfl (by omega) (by omega)) ?_
      refine qq (qv_ldi (v := g) (i := p) Try.plain3 rfl (inVi hgg) (by omega) (by omega)) ?_
      refine qq (qv_eql rfl rfl) ?_
      refine qops_nil ?_
      refine vc_if rfl (fun c3 => ?_) (fun c3 => ?_)
      ·
        refine vc_region ?_
        refine oq (qv_as (Value.bool false) rfl) ?_
        refine ops_nil ?_
        refine vc_region ?_
        refine oq (qv_add rfl rfl (by omega)) ?_
        refine oq (qv_mv (Value.int .i64 (q + 1)) rfl) ?_
        refine ops_nil ?_
        refine ⟨(q + 1), ⟨rfl, rfl, rfl, rfl, rfl, rfl, rfl, rfl, (congrArg Value.bool (decide_eq_false (show ¬ ((∀ y : Int, 0 ≤ y → y < (q + 1) → gi G y ≠ gi G p)) from by intro hx; exact hx q (by omega) (by omega) (by omega))).symm), (congrArg (Value.int .i64) (show (q + 1) = ((q + 1)) from by rfl)), trivial⟩, ⟨rfl, rfl, by omega, by omega⟩, by omega⟩
      ·
        refine vc_skip ?_
        refine vc_region ?_
        refine oq (qv_add rfl rfl (by omega)) ?_
        refine oq (qv_mv (Value.int .i64 (q + 1)) rfl) ?_
        refine ops_nil ?_
        refine ⟨(q + 1), ⟨rfl, rfl, rfl, rfl, rfl, rfl, rfl, rfl, (congrArg Value.bool (decide_eq_decide.2 (show ((∀ y : Int, 0 ≤ y → y < q → gi G y ≠ gi G p)) ↔ ((∀ y : Int, 0 ≤ y → y < (q + 1) → gi G y ≠ gi G p)) from by exact ⟨fun hx => all_snoc hx (by omega), fun hx y a b => hx y a (by omega)⟩))), (congrArg (Value.int .i64) (show (q + 1) = ((q + 1)) from by rfl)), trivial⟩, ⟨rfl, rfl, by omega, by omega⟩, by omega⟩
    ·
      refine vc_exit ?_
      refine blockQ_hit ?_
      refine vc_seq ?_
      refine vc_region ?_
      refine oq (qv_mv (Value.bool (decide ((∀ y : Int, 0 ≤ y → y < q → gi G y ≠ gi G p)))) rfl) ?_
      refine ops_nil ?_
      refine vc_if rfl (fun c4 => ?_) (fun c4 => ?_)
      ·
        have hkb := kindsN_bd G p.toNat
        refine vc_region ?_
        refine oq (qv_mv (Value.int .i64 (kindsN G p.toNat)) rfl) ?_
        refine oq (qv_add rfl rfl (by omega)) ?_
        refine oq (qv_as (Value.int .i64 ((kindsN G p.toNat) + 1)) rfl) ?_
        refine ops_nil ?_
        refine vc_region ?_
        refine oq (qv_add rfl rfl (by omega)) ?_
        refine oq (qv_mv (Value.int .i64 (p + 1)) rfl) ?_
        refine ops_nil ?_
        have hnew : IsNew G p := fun y a b => c4 y a (by omega)
        refine ⟨(p + 1), ⟨rfl, rfl, rfl, (congrArg (Value.int .i64) (show ((kindsN G p.toNat) + 1) = (kindsN G (p + 1 : Int).toNat) from by rw [kindsN_step G ip, if_pos hnew])), (congrArg (Value.int .i64) (show (p + 1) = ((p + 1)) from by rfl)), trivial⟩, ⟨rfl, rfl, by omega, by omega⟩, by omega⟩
      ·
        refine vc_skip ?_
        refine vc_region ?_
        refine oq (qv_add rfl rfl (by omega)) ?_
        refine oq (qv_mv (Value.int .i64 (p + 1)) rfl) ?_
        refine ops_nil ?_
        have hold : ¬ IsNew G p := fun hx => c4 (fun y a b => hx y a (by omega))
        refine ⟨(p + 1), ⟨rfl, rfl, rfl, (congrArg (Value.int .i64) (show (kindsN G p.toNat) = (kindsN G (p + 1 : Int).toNat) from by rw [kindsN_step G ip, if_neg hold])), (congrArg (Value.int .i64) (show (p + 1) = ((p + 1)) from by rfl)), trivial⟩, ⟨rfl, rfl, by omega, by omega⟩, by omega⟩
  ·
    refine vc_exit ?_
    refine blockQ_hit ?_
    refine vc_seq ?_
    refine vc_region ?_
    refine oq (qv_mv (Value.int .i64 (kindsN G p.toNat)) rfl) ?_
    refine oq (qv_as (Value.int .i64 (kindsN G p.toNat)) rfl) ?_
    refine ops_nil ?_
    refine vc_ret ?_
    exact rq1 (Value.int .i64 (kindsN G G.length)) (congrArg (Value.int .i64) (show (kindsN G p.toNat) = (kindsN G G.length) from by rw [show p.toNat = G.length by omega])) rfl

set_option maxRecDepth 100000 in
theorem lintervals_c {V : HV} {g : Value} {G : List Int} (hgg : Ints .i64 V g G) :
    FnC Try.prog 21 [g] V [] (fun v _ _ => v = (Value.bool (decide (runsN G G.length = kindsN G G.length)))) := by
  refine fn_intro (N := 31) Try.func21 (by kernel_rfl) rfl rfl rfl (Nat.le_of_ble_eq_true rfl) ?_
  intro w0 D
  have hbg := hgg.bound
  refine vc_seq ?_
  refine vc_region ?_
  refine oq (qv_as (Value.bool false) rfl) ?_
  refine ops_nil ?_
  refine vc_seq ?_
  refine vc_region ?_
  refine oq (qv_as (Value.int .i64 0) rfl) ?_
  refine ops_nil ?_
  refine vc_seq ?_
  refine vc_seq ?_
  refine vc_region ?_
  refine oq (qv_mv g rfl) ?_
  refine oq (qv_lenI Try.underlying29 rfl hgg) ?_
  refine oq (qv_mv (Value.int .i64 0) rfl) ?_
  refine ops_nil ?_
  refine vc_block ?_
  refine vc_loop (α := Int) (fun (xx : Int) => [(0, g), (2, (Value.bool false)), (6, (Value.int .i64 ((G.length : Int)))), (3, (Value.int .i64 (runsN G xx.toNat))), (7, (Value.int .i64 xx))]) (fun (xx : Int) V' σ' => V = V' ∧ [] = σ' ∧ 0 ≤ xx ∧ xx ≤ G.length) (fun (xx : Int) => (G.length - xx).toNat) (0) ?_ ?_ ?_
  · exact ⟨rfl, rfl, rfl, (congrArg (Value.int .i64) (show 0 = (runsN G (0 : Int).toNat) from by rfl)), rfl, trivial⟩
  · exact ⟨rfl, rfl, by omega, by omega⟩
  rintro p e1 V0l σ0l hI0
  obtain ⟨rfl, rfl, ip, i1⟩ : V = V0l ∧ [] = σ0l ∧ 0 ≤ p ∧ p ≤ G.length := hI0
  refine vc_seq ?_
  refine vc_region ?_
  refine oq (qv_lss rfl rfl) ?_
  refine ops_nil ?_
  refine vc_seq ?_
  refine vc_if rfl (fun c1 => ?_) (fun c1 => ?_)
  ·
    refine vc_skip ?_
    refine vc_seq ?_
    refine vc_block ?_
    refine vc_seq ?_
    refine vc_region ?_
    refine oq (qv_mv (Value.int .i64 p) rfl) ?_
    refine oq (qv_as (Value.int .i64 p) rfl) ?_
    refine ops_nil ?_
    refine vc_seq ?_
    refine vc_region_any Try.mixed (by kernel_rfl) ?_
    refine qq (qv_mv (Value.int .i64 p) rfl) ?_
    refine qq (qv_eql rfl rfl) ?_
    refine qq (qv_mv (Value.bool (decide (p = 0))) rfl) ?_
    by_cases g1 : p = 0
    ·
      refine qs (want_fn g1 rfl rfl rfl) ?_
      refine qs (want_fn g1 rfl rfl rfl) ?_
      refine qs (want_fn g1 rfl rfl rfl) ?_
      refine qs (want_fn g1 rfl rfl rfl) ?_
      refine qs (want_fn g1 rfl rfl rfl) ?_
      refine qs (want_fn g1 rfl rfl rfl) ?_
      refine qs (want_fn g1 rfl rfl rfl) ?_
      refine qs (want_fn g1 rfl rfl rfl) ?_
      refine qs (want_fn g1 rfl rfl rfl) ?_
      refine qs (want_fn g1 rfl rfl rfl) ?_
      refine qq (qv_pick_t g1 rfl (rfl : ev _ _ = (Value.bool true))) ?_
      refine qops_nil ?_
      refine vc_tt rfl ?_
      have hkb := runsN_bd G p.toNat
      refine vc_region ?_
      refine oq (qv_mv (Value.int .i64 (runsN G p.toNat)) rfl) ?_
      refine oq (qv_add rfl rfl (by omega)) ?_
      refine oq (qv_as (Value.int .i64 ((runsN G p.toNat) + 1)) rfl) ?_
      refine ops_nil ?_
      refine vc_region ?_
      refine oq (qv_add rfl rfl (by omega)) ?_
      refine oq (qv_mv (Value.int .i64 (p + 1)) rfl) ?_
      refine ops_nil ?_
      refine ⟨(p + 1), ⟨rfl, rfl, rfl, (congrArg (Value.int .i64) (show ((runsN G p.toNat) + 1) = (runsN G (p + 1 : Int).toNat) from by rw [runsN_step G ip]; first | rw [if_pos (by omega)] | rw [if_neg (by omega)])), (congrArg (Value.int .i64) (show (p + 1) = ((p + 1)) from by rfl)), trivial⟩, ⟨rfl, rfl, by omega, by omega⟩, by omega⟩
    ·
      refine qg (qv_mv g rfl) (want_f g1 rfl rfl rfl) ?_
      refine qg (qv_mv (Value.int .i64 p) rfl) (want_f g1 rfl rfl rfl) ?_
      refine qg (qv_iai (v := g) (i := p) Try.underlying29 Try.size3 rfl (inVi hgg) rfl (by omega) (by omega)) (want_f g1 rfl rfl rfl) ?_
      refine qg (qv_ldi (v := g) (i := p) Try.plain3 rfl (inVi hgg) (by omega) (by omega)) (want_f g1 rfl rfl rfl) ?_
      refine qg (qv_mv g rfl) (want_f g1 rfl rfl rfl) ?_
      refine qg (qv_mv (Value.int .i64 p) rfl) (want_f g1 rfl rfl rfl) ?_
      refine qg (qv_sub rfl rfl (by omega)) (want_f g1 rfl rfl rfl) ?_
      refine qg (qv_iai (v := g) (i := p - 1) Try.underlying29 Try.size3 rfl (inVi hgg) rfl (by omega) (by omega)) (want_f g1 rfl rfl rfl) ?_
      refine qg (qv_ldi (v := g) (i := p - 1) Try.plain3 rfl (inVi hgg) (by omega) (by omega)) (want_f g1 rfl rfl rfl) ?_
      refine qg (qv_neq rfl rfl) (want_f g1 rfl rfl rfl) ?_
      refine qq (qv_pick_f g1 rfl (rfl : ev _ _ = (Value.bool (decide ((gi G (p)) ≠ (gi G (p - 1))))))) ?_
      refine qops_nil ?_
      refine vc_if rfl (fun c2 => ?_) (fun c2 => ?_)
      ·
        have hkb := runsN_bd G p.toNat
        refine vc_region ?_
        refine oq (qv_mv (Value.int .i64 (runsN G p.toNat)) rfl) ?_
        refine oq (qv_add rfl rfl (by omega)) ?_
        refine oq (qv_as (Value.int .i64 ((runsN G p.toNat) + 1)) rfl) ?_
        refine ops_nil ?_
        refine vc_region ?_
        refine oq (qv_add rfl rfl (by omega)) ?_
        refine oq (qv_mv (Value.int .i64 (p + 1)) rfl) ?_
        refine ops_nil ?_
        refine ⟨(p + 1), ⟨rfl, rfl, rfl, (congrArg (Value.int .i64) (show ((runsN G p.toNat) + 1) = (runsN G (p + 1 : Int).toNat) from by rw [runsN_step G ip]; first | rw [if_pos (by omega)] | rw [if_neg (by omega)])), (congrArg (Value.int .i64) (show (p + 1) = ((p + 1)) from by rfl)), trivial⟩, ⟨rfl, rfl, by omega, by omega⟩, by omega⟩
      ·
        refine vc_skip ?_
        refine vc_region ?_
        refine oq (qv_add rfl rfl (by omega)) ?_
        refine oq (qv_mv (Value.int .i64 (p + 1)) rfl) ?_
        refine ops_nil ?_
        refine ⟨(p + 1), ⟨rfl, rfl, rfl, (congrArg (Value.int .i64) (show (runsN G p.toNat) = (runsN G (p + 1 : Int).toNat) from by rw [runsN_step G ip]; first | rw [if_pos (by omega)] | rw [if_neg (by omega)])), (congrArg (Value.int .i64) (show (p + 1) = ((p + 1)) from by rfl)), trivial⟩, ⟨rfl, rfl, by omega, by omega⟩, by omega⟩
  ·
    refine vc_exit ?_
    refine blockQ_hit ?_
    refine vc_seq ?_
    refine vc_region ?_
    refine oq (qv_mv (Value.int .i64 (runsN G p.toNat)) rfl) ?_
    refine oq (qv_mv g rfl) ?_
    refine oq (qv_call (v := (Value.int .i64 (kindsN G G.length))) (kinds_c hgg) rfl rfl) ?_
    refine oq (qv_eql rfl rfl) ?_
    refine oq (qv_as (Value.bool (decide ((runsN G p.toNat) = (kindsN G G.length)))) rfl) ?_
    refine ops_nil ?_
    refine vc_ret ?_
    exact rq1 (Value.bool (decide (runsN G G.length = kindsN G G.length))) (congrArg Value.bool (decide_eq_decide.2 (show ((runsN G p.toNat) = (kindsN G G.length)) ↔ (runsN G G.length = kindsN G G.length) from by rw [show p.toNat = G.length by omega]))) rfl

set_option maxRecDepth 100000 in
theorem proved_c {V : HV} {l : Value} {rv : List Value} {L : List (List Int)} {t : Value} {tv : List Value} {T : List (List Int)} {k c : Int} (hl : Mat .i64 V l rv L) (ht : Mat .i64 V t tv T) (hch : chk L = 0) (hk : 1 ≤ k ∧ k ≤ 32) :
    FnC Try.prog 18 [l, (Value.int .i64 k), t, (Value.int .i64 c)] V [] (fun v _ _ => v = (Value.int .i64 (poE L k T c))) := by
  refine fn_intro (N := 117) Try.func18 (by kernel_rfl) rfl rfl rfl (Nat.le_of_ble_eq_true rfl) ?_
  intro w0 D
  have hlen := hl.len
  have htl := ht.len
  have hbd := ht.sl.bound
  have hg := good_of_chk hch
  have hle := hg.le
  refine vc_seq ?_
  refine vc_region ?_
  refine oq (qv_as (Value.int .i64 0) rfl) ?_
  refine ops_nil ?_
  refine vc_seq ?_
  refine vc_region ?_
  refine oq (qv_mv l rfl) ?_
  refine oq (qv_lenS Try.underlying23 rfl hl.sl) ?_
  refine oq (qv_as (Value.int .i64 ((rv.length : Int))) rfl) ?_
  refine ops_nil ?_
  refine vc_seq ?_
  refine vc_seq ?_
  refine vc_region ?_
  refine oq (qv_mv t rfl) ?_
  refine oq (qv_lenS Try.underlying31 rfl ht.sl) ?_
  refine oq (qv_mv (Value.int .i64 k) rfl) ?_
  refine oq (qv_add rfl rfl (by omega)) ?_
  refine oq (qv_neq rfl rfl) ?_
  refine ops_nil ?_
  refine vc_if rfl (fun c1 => ?_) (fun c1 => ?_)
  ·
    refine vc_seq ?_
    refine vc_region ?_
    refine oq (qv_as (Value.int .i64 2) rfl) ?_
    refine ops_nil ?_
    refine vc_ret ?_
    exact rq1 (Value.int .i64 (poE L k T c)) (congrArg (Value.int .i64) (show 2 = (poE L k T c) from by rw [poE_2 hch hk (by first | exact Or.inl (by omega) | exact Or.inr ⟨j1, by omega, by omega, by omega⟩)])) rfl
  ·
    refine vc_skip ?_
    refine vc_seq ?_
    refine vc_seq ?_
    refine vc_region ?_
    refine oq (qv_mv t rfl) ?_
    refine oq (qv_lenS Try.underlying31 rfl ht.sl) ?_
    refine oq (qv_mv (Value.int .i64 0) rfl) ?_
    refine ops_nil ?_
    refine vc_block ?_
    refine vc_loop (α := Int) (fun (xx : Int) => [(0, l), (1, (Value.int .i64 k)), (2, t), (3, (Value.int .i64 c)), (9, (Value.int .i64 ((rv.length : Int)))), (25, (Value.bool (decide (((tv.length : Int)) ≠ (k + 1))))), (26, t), (27, (Value.int .i64 ((tv.length : Int)))), (28, (Value.int .i64 xx))]) (fun (xx : Int) V' σ' => V = V' ∧ [] = σ' ∧ 0 ≤ xx ∧ xx ≤ tv.length ∧ ∀ z : Int, 0 ≤ z → z < xx → (gr T z).length = (L.length : Int) + 1) (fun (xx : Int) => (tv.length - xx).toNat) (0) ?_ ?_ ?_
    · exact ⟨rfl, rfl, rfl, rfl, rfl, rfl, rfl, rfl, rfl, trivial⟩
    · exact ⟨rfl, rfl, by omega, by omega, fun z a b => by omega⟩
    rintro j1 e1 V0l σ0l hI0
    obtain ⟨rfl, rfl, i1, i2, hr⟩ : V = V0l ∧ [] = σ0l ∧ 0 ≤ j1 ∧ j1 ≤ tv.length ∧ ∀ z : Int, 0 ≤ z → z < j1 → (gr T z).length = (L.length : Int) + 1 := hI0
    refine vc_seq ?_
    refine vc_region ?_
    refine oq (qv_lss rfl rfl) ?_
    refine ops_nil ?_
    refine vc_seq ?_
    refine vc_if rfl (fun c2 => ?_) (fun c2 => ?_)
    ·
      refine vc_skip ?_
      refine vc_seq ?_
      refine vc_block ?_
      refine vc_seq ?_
      refine vc_region ?_
      refine oq (qv_ia (v := t) (i := j1) Try.underlying31 Try.size29 rfl (inV ht.sl) rfl (by omega) (by omega)) ?_
      refine oq (qv_ld (v := t) (i := j1) Try.plain29 rfl (inV ht.sl) (by omega) (by omega)) ?_
      refine oq (qv_as (gv tv (j1)) rfl) ?_
      refine ops_nil ?_
      refine vc_seq ?_
      refine vc_region ?_
      refine oq (qv_mv (gv tv (j1)) rfl) ?_
      refine oq (qv_lenI Try.underlying29 rfl (ht.row (j1) (by omega) (by omega))) ?_
      refine oq (qv_mv (Value.int .i64 ((rv.length : Int))) rfl) ?_
      refine oq (qv_add rfl rfl (by omega)) ?_
      refine oq (qv_neq rfl rfl) ?_
      refine ops_nil ?_
      refine vc_if rfl (fun c3 => ?_) (fun c3 => ?_)
      ·
        refine vc_seq ?_
        refine vc_region ?_
        refine oq (qv_as (Value.int .i64 2) rfl) ?_
        refine ops_nil ?_
        refine vc_ret ?_
        refine blockQ_ret ?_
        refine blockQ_ret ?_
        exact rq1 (Value.int .i64 (poE L k T c)) (congrArg (Value.int .i64) (show 2 = (poE L k T c) from by rw [poE_2 hch hk (by first | exact Or.inl (by omega) | exact Or.inr ⟨j1, by omega, by omega, by omega⟩)])) rfl
      ·
        refine vc_skip ?_
        refine vc_region ?_
        refine oq (qv_add rfl rfl (by omega)) ?_
        refine oq (qv_mv (Value.int .i64 (j1 + 1)) rfl) ?_
        refine ops_nil ?_
        refine ⟨(j1 + 1), ⟨rfl, rfl, rfl, rfl, rfl, rfl, rfl, rfl, (congrArg (Value.int .i64) (show (j1 + 1) = ((j1 + 1)) from by omega)), trivial⟩, ⟨rfl, rfl, by omega, by omega, all_snoc hr (by omega)⟩, by omega⟩
    ·
      refine vc_exit ?_
      refine blockQ_hit ?_
      refine vc_seq ?_
      refine vc_seq ?_
      have hrg : ¬ Ragg T L.length := fun ⟨i, a, b, c⟩ => c (hr i a (by omega))
      refine vc_region ?_
      refine oq (qv_mv t rfl) ?_
      refine oq (qv_lenS Try.underlying31 rfl ht.sl) ?_
      refine oq (qv_mv (Value.int .i64 0) rfl) ?_
      refine ops_nil ?_
      refine vc_block ?_
      refine vc_loop (α := Int) (fun (xx : Int) => [(0, l), (1, (Value.int .i64 k)), (2, t), (3, (Value.int .i64 c)), (9, (Value.int .i64 ((rv.length : Int)))), (25, (Value.bool (decide (((tv.length : Int)) ≠ (k + 1))))), (26, t), (27, (Value.int .i64 ((tv.length : Int)))), (28, (Value.int .i64 j1)), (29, (Value.bool (decide (j1 < ((tv.length : Int)))))), (38, t), (39, (Value.int .i64 ((tv.length : Int)))), (40, (Value.int .i64 xx))]) (fun (xx : Int) V' σ' => V = V' ∧ [] = σ' ∧ 0 ≤ xx ∧ xx ≤ tv.length ∧ ∀ z : Int, 0 ≤ z → z < xx → ∀ i : Int, 0 ≤ i → i < (gr T z).length → ¬ (gi (gr T z) i < 0 ∨ 1152921504606846976 < gi (gr T z) i)) (fun (xx : Int) => (tv.length - xx).toNat) (0) ?_ ?_ ?_
      · exact ⟨rfl, rfl, rfl, rfl, rfl, rfl, rfl, rfl, rfl, rfl, rfl, rfl, rfl, trivial⟩
      · exact ⟨rfl, rfl, by omega, by omega, fun z a b => by omega⟩
      rintro j2 e2 V1l σ1l hI1
      obtain ⟨rfl, rfl, i3, i4, hw⟩ : V = V1l ∧ [] = σ1l ∧ 0 ≤ j2 ∧ j2 ≤ tv.length ∧ ∀ z : Int, 0 ≤ z → z < j2 → ∀ i : Int, 0 ≤ i → i < (gr T z).length → ¬ (gi (gr T z) i < 0 ∨ 1152921504606846976 < gi (gr T z) i) := hI1
      refine vc_seq ?_
      refine vc_region ?_
      refine oq (qv_lss rfl rfl) ?_
      refine ops_nil ?_
      refine vc_seq ?_
      refine vc_if rfl (fun c4 => ?_) (fun c4 => ?_)
      ·
        refine vc_skip ?_
        refine vc_seq ?_
        refine vc_block ?_
        refine vc_seq ?_
        refine vc_region ?_
        refine oq (qv_ia (v := t) (i := j2) Try.underlying31 Try.size29 rfl (inV ht.sl) rfl (by omega) (by omega)) ?_
        refine oq (qv_ld (v := t) (i := j2) Try.plain29 rfl (inV ht.sl) (by omega) (by omega)) ?_
        refine oq (qv_as (gv tv (j2)) rfl) ?_
        refine ops_nil ?_
        refine vc_seq ?_
        have hrj := (ht.row j2 (by omega) (by omega)).bound
        refine vc_region ?_
        refine oq (qv_mv (gv tv (j2)) rfl) ?_
        refine oq (qv_lenI Try.underlying29 rfl (ht.row (j2) (by omega) (by omega))) ?_
        refine oq (qv_mv (Value.int .i64 0) rfl) ?_
        refine ops_nil ?_
        refine vc_block ?_
        refine vc_loop (α := Int) (fun (xx : Int) => [(0, l), (1, (Value.int .i64 k)), (2, t), (3, (Value.int .i64 c)), (9, (Value.int .i64 ((rv.length : Int)))), (13, (gv tv (j2))), (25, (Value.bool (decide (((tv.length : Int)) ≠ (k + 1))))), (26, t), (27, (Value.int .i64 ((tv.length : Int)))), (28, (Value.int .i64 j1)), (29, (Value.bool (decide (j1 < ((tv.length : Int)))))), (38, t), (39, (Value.int .i64 ((tv.length : Int)))), (40, (Value.int .i64 j2)), (41, (Value.bool (decide (j2 < ((tv.length : Int)))))), (44, (gv tv (j2))), (45, (Value.int .i64 (((gr T (j2)).length : Int)))), (46, (Value.int .i64 xx))]) (fun (xx : Int) V' σ' => V = V' ∧ [] = σ' ∧ 0 ≤ xx ∧ xx ≤ (gr T j2).length ∧ ∀ y : Int, 0 ≤ y → y < xx → ¬ (gi (gr T j2) y < 0 ∨ 1152921504606846976 < gi (gr T j2) y)) (fun (xx : Int) => ((gr T j2).length - xx).toNat) (0) ?_ ?_ ?_
        · exact ⟨rfl, rfl, rfl, rfl, rfl, rfl, rfl, rfl, rfl, rfl, rfl, rfl, rfl, rfl, rfl, rfl, rfl, rfl, trivial⟩
        · exact ⟨rfl, rfl, by omega, by omega, fun z a b => by omega⟩
        rintro i3 e3 V2l σ2l hI2
        obtain ⟨rfl, rfl, i5, i6, hw2⟩ : V = V2l ∧ [] = σ2l ∧ 0 ≤ i3 ∧ i3 ≤ (gr T j2).length ∧ ∀ y : Int, 0 ≤ y → y < i3 → ¬ (gi (gr T j2) y < 0 ∨ 1152921504606846976 < gi (gr T j2) y) := hI2
        refine vc_seq ?_
        refine vc_region ?_
        refine oq (qv_lss rfl rfl) ?_
        refine ops_nil ?_
        refine vc_seq ?_
        refine vc_if rfl (fun c5 => ?_) (fun c5 => ?_)
        ·
          refine vc_skip ?_
          refine vc_seq ?_
          refine vc_block ?_
          refine vc_seq ?_
          refine vc_region ?_
          refine oq (qv_iai (v := (gv tv (j2))) (i := i3) Try.underlying29 Try.size3 rfl (inVi (ht.row (j2) (by omega) (by omega))) rfl (by omega) (by omega)) ?_
          refine oq (qv_ldi (v := (gv tv (j2))) (i := i3) Try.plain3 rfl (inVi (ht.row (j2) (by omega) (by omega))) (by omega) (by omega)) ?_
          refine oq (qv_as (Value.int .i64 (gi (gr T (j2)) (i3))) rfl) ?_
          refine ops_nil ?_
          refine vc_seq ?_
          refine vc_region ?_
          refine oq (qv_mv (Value.int .i64 (gi (gr T (j2)) (i3))) rfl) ?_
          refine oq (qv_lss rfl rfl) ?_
          refine oq (qv_mv (Value.bool (decide ((gi (gr T (j2)) (i3)) < 0))) rfl) ?_
          by_cases g1 : (gi (gr T (j2)) (i3)) < 0
          ·
            refine os (want_fn g1 rfl rfl rfl) ?_
            refine os (want_fn g1 rfl rfl rfl) ?_
            refine oq (qv_pick_t g1 rfl (rfl : ev _ _ = (Value.bool true))) ?_
            refine ops_nil ?_
            refine vc_tt rfl ?_
            refine vc_seq ?_
            refine vc_region ?_
            refine oq (qv_as (Value.int .i64 3) rfl) ?_
            refine ops_nil ?_
            refine vc_ret ?_
            refine blockQ_ret ?_
            refine blockQ_ret ?_
            refine blockQ_ret ?_
            refine blockQ_ret ?_
            exact rq1 (Value.int .i64 (poE L k T c)) (congrArg (Value.int .i64) (show 3 = (poE L k T c) from by rw [poE_3 hch hk (by omega) hrg ⟨j2, i3, by omega, by omega, by omega, by omega, by omega⟩])) rfl
          ·
            refine og (qv_mv (Value.int .i64 (gi (gr T (j2)) (i3))) rfl) (want_f g1 rfl rfl rfl) ?_
            refine og (qv_gtr rfl rfl) (want_f g1 rfl rfl rfl) ?_
            refine oq (qv_pick_f g1 rfl (rfl : ev _ _ = (Value.bool (decide (1152921504606846976 < (gi (gr T (j2)) (i3))))))) ?_
            refine ops_nil ?_
            refine vc_if rfl (fun c6 => ?_) (fun c6 => ?_)
            ·
              refine vc_seq ?_
              refine vc_region ?_
              refine oq (qv_as (Value.int .i64 3) rfl) ?_
              refine ops_nil ?_
              refine vc_ret ?_
              refine blockQ_ret ?_
              refine blockQ_ret ?_
              refine blockQ_ret ?_
              refine blockQ_ret ?_
              exact rq1 (Value.int .i64 (poE L k T c)) (congrArg (Value.int .i64) (show 3 = (poE L k T c) from by rw [poE_3 hch hk (by omega) hrg ⟨j2, i3, by omega, by omega, by omega, by omega, by omega⟩])) rfl
            ·
              refine vc_skip ?_
              refine vc_region ?_
              refine oq (qv_add rfl rfl (by omega)) ?_
              refine oq (qv_mv (Value.int .i64 (i3 + 1)) rfl) ?_
              refine ops_nil ?_
              refine ⟨(i3 + 1), ⟨rfl, rfl, rfl, rfl, rfl, rfl, rfl, rfl, rfl, rfl, rfl, rfl, rfl, rfl, rfl, rfl, rfl, (congrArg (Value.int .i64) (show (i3 + 1) = ((i3 + 1)) from by omega)), trivial⟩, ⟨rfl, rfl, by omega, by omega, all_snoc hw2 (by omega)⟩, by omega⟩
        ·
          refine vc_exit ?_
          refine blockQ_hit ?_
          refine vc_region ?_
          refine oq (qv_add rfl rfl (by omega)) ?_
          refine oq (qv_mv (Value.int .i64 (j2 + 1)) rfl) ?_
          refine ops_nil ?_
          refine ⟨(j2 + 1), ⟨rfl, rfl, rfl, rfl, rfl, rfl, rfl, rfl, rfl, rfl, rfl, rfl, (congrArg (Value.int .i64) (show (j2 + 1) = ((j2 + 1)) from by omega)), trivial⟩, ⟨rfl, rfl, by omega, by omega, all_snoc hw (fun i a b => hw2 i a (by omega))⟩, by omega⟩
      ·
        refine vc_exit ?_
        refine blockQ_hit ?_
        refine vc_seq ?_
        refine vc_seq ?_
        have hwi : ¬ Wild T := fun ⟨j, i, a, b, c, d, e⟩ => hw j a (by omega) i c d e
        have hT : Tab T L.length k := tab_of (by omega) hrg hwi
        have f1 := hT.row 0 (by omega) (by omega)
        have f2 := hT.row k (by omega) (by omega)
        have f3 := hT.rng 0 0 (by omega) (by omega) (by omega) (by omega)
        refine vc_region ?_
        refine oq (qv_mv t rfl) ?_
        refine oq (qv_ia (v := t) (i := 0) Try.underlying31 Try.size29 rfl (inV ht.sl) rfl (by omega) (by omega)) ?_
        refine oq (qv_ld (v := t) (i := 0) Try.plain29 rfl (inV ht.sl) (by omega) (by omega)) ?_
        refine oq (qv_iai (v := (gv tv (0))) (i := 0) Try.underlying29 Try.size3 rfl (inVi (ht.row (0) (by omega) (by omega))) rfl (by omega) (by omega)) ?_
        refine oq (qv_ldi (v := (gv tv (0))) (i := 0) Try.plain3 rfl (inVi (ht.row (0) (by omega) (by omega))) (by omega) (by omega)) ?_
        refine oq (qv_gtr rfl rfl) ?_
        refine ops_nil ?_
        refine vc_if rfl (fun c7 => ?_) (fun c7 => ?_)
        ·
          refine vc_seq ?_
          refine vc_region ?_
          refine oq (qv_as (Value.int .i64 13) rfl) ?_
          refine ops_nil ?_
          refine vc_ret ?_
          exact rq1 (Value.int .i64 (poE L k T c)) (congrArg (Value.int .i64) (show 13 = (poE L k T c) from by rw [poE_13 hch hk (by omega) hrg hwi (by first | exact Or.inl (by omega) | exact Or.inr (Or.inl (by rw [← hlen]; omega)))])) rfl
        ·
          refine vc_skip ?_
          refine vc_seq ?_
          refine vc_seq ?_
          refine vc_region ?_
          refine oq (qv_as (Value.int .i64 1) rfl) ?_
          refine ops_nil ?_
          refine vc_block ?_
          refine vc_loop (α := Int) (fun (xx : Int) => [(0, l), (1, (Value.int .i64 k)), (2, t), (3, (Value.int .i64 c)), (9, (Value.int .i64 ((rv.length : Int)))), (25, (Value.bool (decide (((tv.length : Int)) ≠ (k + 1))))), (26, t), (27, (Value.int .i64 ((tv.length : Int)))), (28, (Value.int .i64 j1)), (29, (Value.bool (decide (j1 < ((tv.length : Int)))))), (38, t), (39, (Value.int .i64 ((tv.length : Int)))), (40, (Value.int .i64 j2)), (41, (Value.bool (decide (j2 < ((tv.length : Int)))))), (63, (Value.bool (decide (0 < (gi (gr T (0)) (0)))))), (16, (Value.int .i64 xx))]) (fun (xx : Int) V' σ' => V = V' ∧ [] = σ' ∧ 1 ≤ xx ∧ xx ≤ k + 1 ∧ ∀ z : Int, 1 ≤ z → z < xx → ∀ y : Int, 0 ≤ y → y ≤ L.length → ∀ h : Int, 0 ≤ h → h ≤ y → (1 < z ∨ h = 0) → RowOK (ivals L) T z y h) (fun (xx : Int) => (k + 1 - xx).toNat) (1) ?_ ?_ ?_
          · exact ⟨rfl, rfl, rfl, rfl, rfl, rfl, rfl, rfl, rfl, rfl, rfl, rfl, rfl, rfl, rfl, rfl, trivial⟩
          · exact ⟨rfl, rfl, by omega, by omega, fun z a b => by omega⟩
          rintro j e4 V3l σ3l hI3
          obtain ⟨rfl, rfl, i7, i8, h3⟩ : V = V3l ∧ [] = σ3l ∧ 1 ≤ j ∧ j ≤ k + 1 ∧ ∀ z : Int, 1 ≤ z → z < j → ∀ y : Int, 0 ≤ y → y ≤ L.length → ∀ h : Int, 0 ≤ h → h ≤ y → (1 < z ∨ h = 0) → RowOK (ivals L) T z y h := hI3
          refine vc_seq ?_
          refine vc_seq ?_
          refine vc_region ?_
          refine oq (qv_mv (Value.int .i64 j) rfl) ?_
          refine oq (qv_mv (Value.int .i64 k) rfl) ?_
          refine oq (qv_leq rfl rfl) ?_
          refine ops_nil ?_
          refine vc_if rfl (fun c8 => ?_) (fun c8 => ?_)
          ·
            refine vc_skip ?_
            refine vc_seq ?_
            refine vc_block ?_
            refine vc_seq ?_
            refine vc_region ?_
            refine oq (qv_as (Value.int .i64 0) rfl) ?_
            refine ops_nil ?_
            refine vc_block ?_
            refine vc_loop (α := Int) (fun (xx : Int) => [(0, l), (1, (Value.int .i64 k)), (2, t), (3, (Value.int .i64 c)), (9, (Value.int .i64 ((rv.length : Int)))), (16, (Value.int .i64 j)), (25, (Value.bool (decide (((tv.length : Int)) ≠ (k + 1))))), (26, t), (27, (Value.int .i64 ((tv.length : Int)))), (28, (Value.int .i64 j1)), (29, (Value.bool (decide (j1 < ((tv.length : Int)))))), (38, t), (39, (Value.int .i64 ((tv.length : Int)))), (40, (Value.int .i64 j2)), (41, (Value.bool (decide (j2 < ((tv.length : Int)))))), (63, (Value.bool (decide (0 < (gi (gr T (0)) (0)))))), (66, (Value.bool (decide (j ≤ k)))), (17, (Value.int .i64 xx))]) (fun (xx : Int) V' σ' => V = V' ∧ [] = σ' ∧ 0 ≤ xx ∧ xx ≤ L.length + 1 ∧ ∀ y : Int, 0 ≤ y → y < xx → ∀ h : Int, 0 ≤ h → h ≤ y → (1 < j ∨ h = 0) → RowOK (ivals L) T j y h) (fun (xx : Int) => (L.length + 1 - xx).toNat) (0) ?_ ?_ ?_
            · exact ⟨rfl, rfl, rfl, rfl, rfl, rfl, rfl, rfl, rfl, rfl, rfl, rfl, rfl, rfl, rfl, rfl, rfl, rfl, trivial⟩
            · exact ⟨rfl, rfl, by omega, by omega, fun z a b => by omega⟩
            rintro i e5 V4l σ4l hI4
            obtain ⟨rfl, rfl, i9, i10, h4⟩ : V = V4l ∧ [] = σ4l ∧ 0 ≤ i ∧ i ≤ L.length + 1 ∧ ∀ y : Int, 0 ≤ y → y < i → ∀ h : Int, 0 ≤ h → h ≤ y → (1 < j ∨ h = 0) → RowOK (ivals L) T j y h := hI4
            refine vc_seq ?_
            refine vc_seq ?_
            refine vc_region ?_
            refine oq (qv_mv (Value.int .i64 i) rfl) ?_
            refine oq (qv_mv (Value.int .i64 ((rv.length : Int))) rfl) ?_
            refine oq (qv_leq rfl rfl) ?_
            refine ops_nil ?_
            refine vc_if rfl (fun c9 => ?_) (fun c9 => ?_)
            ·
              refine vc_skip ?_
              refine vc_seq ?_
              refine vc_block ?_
              refine vc_seq ?_
              refine vc_region ?_
              refine oq (qv_as (Value.int .i64 0) rfl) ?_
              refine ops_nil ?_
              refine vc_block ?_
              refine vc_loop (α := Int) (fun (xx : Int) => [(0, l), (1, (Value.int .i64 k)), (2, t), (3, (Value.int .i64 c)), (9, (Value.int .i64 ((rv.length : Int)))), (16, (Value.int .i64 j)), (17, (Value.int .i64 i)), (25, (Value.bool (decide (((tv.length : Int)) ≠ (k + 1))))), (26, t), (27, (Value.int .i64 ((tv.length : Int)))), (28, (Value.int .i64 j1)), (29, (Value.bool (decide (j1 < ((tv.length : Int)))))), (38, t), (39, (Value.int .i64 ((tv.length : Int)))), (40, (Value.int .i64 j2)), (41, (Value.bool (decide (j2 < ((tv.length : Int)))))), (63, (Value.bool (decide (0 < (gi (gr T (0)) (0)))))), (66, (Value.bool (decide (j ≤ k)))), (71, (Value.bool (decide (i ≤ ((rv.length : Int)))))), (18, (Value.int .i64 xx))]) (fun (xx : Int) V' σ' => V = V' ∧ [] = σ' ∧ 0 ≤ xx ∧ xx ≤ i + 1 ∧ ∀ x : Int, 0 ≤ x → x < xx → (1 < j ∨ x = 0) → RowOK (ivals L) T j i x) (fun (xx : Int) => (i + 1 - xx).toNat) (0) ?_ ?_ ?_
              · exact ⟨rfl, rfl, rfl, rfl, rfl, rfl, rfl, rfl, rfl, rfl, rfl, rfl, rfl, rfl, rfl, rfl, rfl, rfl, rfl, rfl, trivial⟩
              · exact ⟨rfl, rfl, by omega, by omega, fun z a b => by omega⟩
              rintro h e6 V5l σ5l hI5
              obtain ⟨rfl, rfl, i11, i12, h5⟩ : V = V5l ∧ [] = σ5l ∧ 0 ≤ h ∧ h ≤ i + 1 ∧ ∀ x : Int, 0 ≤ x → x < h → (1 < j ∨ x = 0) → RowOK (ivals L) T j i x := hI5
              refine vc_seq ?_
              refine vc_seq ?_
              refine vc_region ?_
              refine oq (qv_mv (Value.int .i64 h) rfl) ?_
              refine oq (qv_mv (Value.int .i64 i) rfl) ?_
              refine oq (qv_leq rfl rfl) ?_
              refine ops_nil ?_
              refine vc_if rfl (fun c10 => ?_) (fun c10 => ?_)
              ·
                refine vc_skip ?_
                refine vc_seq ?_
                refine vc_block ?_
                refine vc_seq ?_
                refine vc_region_any Try.mixed (by kernel_rfl) ?_
                refine qq (qv_mv (Value.int .i64 j) rfl) ?_
                refine qq (qv_gtr rfl rfl) ?_
                refine qq (qv_mv (Value.bool (decide (1 < j))) rfl) ?_
                by_cases g2 : 1 < j
                ·
                  refine qs (want_fn g2 rfl rfl rfl) ?_
                  refine qs (want_fn g2 rfl rfl rfl) ?_
                  refine qq (qv_pick_t g2 rfl (rfl : ev _ _ = (Value.bool true))) ?_
                  refine qq (qv_mv (Value.bool true) rfl) ?_
                  have f4 := hT.row j (by omega) (by omega)
                  have f5 := hT.row (j - 1) (by omega) (by omega)
                  have f6 := hT.rng (j - 1) h (by omega) (by omega) (by omega) (by omega)
                  have f7 := ivTo_bd hg (h := h.toNat) (i := i.toNat) (by omega) (i - h).toNat (by omega)
                  refine qg (qv_mv t rfl) (want_tc rfl rfl rfl) ?_
                  refine qg (qv_mv (Value.int .i64 j) rfl) (want_tc rfl rfl rfl) ?_
                  refine qg (qv_ia (v := t) (i := j) Try.underlying31 Try.size29 rfl (inV ht.sl) rfl (by omega) (by omega)) (want_tc rfl rfl rfl) ?_
                  refine qg (qv_ld (v := t) (i := j) Try.plain29 rfl (inV ht.sl) (by omega) (by omega)) (want_tc rfl rfl rfl) ?_
                  refine qg (qv_mv (Value.int .i64 i) rfl) (want_tc rfl rfl rfl) ?_
                  refine qg (qv_iai (v := (gv tv (j))) (i := i) Try.underlying29 Try.size3 rfl (inVi (ht.row (j) (by omega) (by omega))) rfl (by omega) (by omega)) (want_tc rfl rfl rfl) ?_
                  have f4 := hT.row j (by omega) (by omega)
                  have f5 := hT.row (j - 1) (by omega) (by omega)
                  have f6 := hT.rng (j - 1) h (by omega) (by omega) (by omega) (by omega)
                  have f7 := ivTo_bd hg (h := h.toNat) (i := i.toNat) (by omega) (i - h).toNat (by omega)
                  refine qg (qv_ldi (v := (gv tv (j))) (i := i) Try.plain3 rfl (inVi (ht.row (j) (by omega) (by omega))) (by omega) (by omega)) (want_tc rfl rfl rfl) ?_
                  refine qg (qv_mv t rfl) (want_tc rfl rfl rfl) ?_
                  refine qg (qv_mv (Value.int .i64 j) rfl) (want_tc rfl rfl rfl) ?_
                  refine qg (qv_sub rfl rfl (by omega)) (want_tc rfl rfl rfl) ?_
                  refine qg (qv_ia (v := t) (i := j - 1) Try.underlying31 Try.size29 rfl (inV ht.sl) rfl (by omega) (by omega)) (want_tc rfl rfl rfl) ?_
                  refine qg (qv_ld (v := t) (i := j - 1) Try.plain29 rfl (inV ht.sl) (by omega) (by omega)) (want_tc rfl rfl rfl) ?_
                  refine qg (qv_mv (Value.int .i64 h) rfl) (want_tc rfl rfl rfl) ?_
                  refine qg (qv_iai (v := (gv tv (j - 1))) (i := h) Try.underlying29 Try.size3 rfl (inVi (ht.row (j - 1) (by omega) (by omega))) rfl (by omega) (by omega)) (want_tc rfl rfl rfl) ?_
                  refine qg (qv_ldi (v := (gv tv (j - 1))) (i := h) Try.plain3 rfl (inVi (ht.row (j - 1) (by omega) (by omega))) (by omega) (by omega)) (want_tc rfl rfl rfl) ?_
                  refine qg (qv_mv l rfl) (want_tc rfl rfl rfl) ?_
                  refine qg (qv_mv (Value.int .i64 h) rfl) (want_tc rfl rfl rfl) ?_
                  refine qg (qv_mv (Value.int .i64 i) rfl) (want_tc rfl rfl rfl) ?_
                  refine qg (qv_call (v := (Value.int .i64 (ivTo L h.toNat i.toNat (i - h).toNat))) (linterval_c hl hg (by omega) (by omega) (by omega)) rfl rfl) (want_tc rfl rfl rfl) ?_
                  refine qg (qv_add rfl rfl (by omega)) (want_tc rfl rfl rfl) ?_
                  refine qg (qv_gtr rfl rfl) (want_tc rfl rfl rfl) ?_
                  refine qq (qv_pick_tc rfl (rfl : ev _ _ = (Value.bool (decide (((gi (gr T (j - 1)) (h)) + (ivTo L h.toNat i.toNat (i - h).toNat)) < (gi (gr T (j)) (i))))))) ?_
                  refine qops_nil ?_
                  refine vc_if rfl (fun c11 => ?_) (fun c11 => ?_)
                  ·
                    refine vc_seq ?_
                    refine vc_region ?_
                    refine oq (qv_as (Value.int .i64 13) rfl) ?_
                    refine ops_nil ?_
                    refine vc_ret ?_
                    refine blockQ_ret ?_
                    refine blockQ_ret ?_
                    refine blockQ_ret ?_
                    refine blockQ_ret ?_
                    refine blockQ_ret ?_
                    refine blockQ_ret ?_
                    exact rq1 (Value.int .i64 (poE L k T c)) (congrArg (Value.int .i64) (show 13 = (poE L k T c) from by rw [poE_13 hch hk (by omega) hrg hwi (Or.inr (Or.inr fun hx => by have hy := hx j (by omega) (by omega) (by omega) i (by omega) (by omega) h (by omega) (by omega) (by omega); rw [RowOK, ivals_el (by omega) (by omega) (by omega), show i.toNat - h.toNat = (i - h).toNat by omega] at hy; omega))])) rfl
                  ·
                    refine vc_skip ?_
                    refine vc_region ?_
                    refine oq (qv_mv (Value.int .i64 h) rfl) ?_
                    refine oq (qv_add rfl rfl (by omega)) ?_
                    refine oq (qv_as (Value.int .i64 (h + 1)) rfl) ?_
                    refine ops_nil ?_
                    refine ⟨(h + 1), ⟨rfl, rfl, rfl, rfl, rfl, rfl, rfl, rfl, rfl, rfl, rfl, rfl, rfl, rfl, rfl, rfl, rfl, rfl, rfl, (congrArg (Value.int .i64) (show (h + 1) = ((h + 1)) from by omega)), trivial⟩, ⟨rfl, rfl, by omega, by omega, all_snoc h5 (fun q => by first | omega | (rw [RowOK, ivals_el (by omega) (by omega) (by omega), show i.toNat - h.toNat = (i - h).toNat by omega]; omega))⟩, by omega⟩
                ·
                  refine qg (qv_mv (Value.int .i64 h) rfl) (want_f g2 rfl rfl rfl) ?_
                  refine qg (qv_eql rfl rfl) (want_f g2 rfl rfl rfl) ?_
                  refine qq (qv_pick_f g2 rfl (rfl : ev _ _ = (Value.bool (decide (h = 0))))) ?_
                  refine qq (qv_mv (Value.bool (decide (h = 0))) rfl) ?_
                  have f4 := hT.row j (by omega) (by omega)
                  have f5 := hT.row (j - 1) (by omega) (by omega)
                  have f6 := hT.rng (j - 1) h (by omega) (by omega) (by omega) (by omega)
                  have f7 := ivTo_bd hg (h := h.toNat) (i := i.toNat) (by omega) (i - h).toNat (by omega)
                  by_cases g3 : h = 0
                  ·
                    have f4 := hT.row j (by omega) (by omega)
                    have f5 := hT.row (j - 1) (by omega) (by omega)
                    have f6 := hT.rng (j - 1) h (by omega) (by omega) (by omega) (by omega)
                    have f7 := ivTo_bd hg (h := h.toNat) (i := i.toNat) (by omega) (i - h).toNat (by omega)
                    refine qg (qv_mv t rfl) (want_t g3 rfl rfl rfl) ?_
                    refine qg (qv_mv (Value.int .i64 j) rfl) (want_t g3 rfl rfl rfl) ?_
                    refine qg (qv_ia (v := t) (i := j) Try.underlying31 Try.size29 rfl (inV ht.sl) rfl (by omega) (by omega)) (want_t g3 rfl rfl rfl) ?_
                    refine qg (qv_ld (v := t) (i := j) Try.plain29 rfl (inV ht.sl) (by omega) (by omega)) (want_t g3 rfl rfl rfl) ?_
                    refine qg (qv_mv (Value.int .i64 i) rfl) (want_t g3 rfl rfl rfl) ?_
                    refine qg (qv_iai (v := (gv tv (j))) (i := i) Try.underlying29 Try.size3 rfl (inVi (ht.row (j) (by omega) (by omega))) rfl (by omega) (by omega)) (want_t g3 rfl rfl rfl) ?_
                    have f4 := hT.row j (by omega) (by omega)
                    have f5 := hT.row (j - 1) (by omega) (by omega)
                    have f6 := hT.rng (j - 1) h (by omega) (by omega) (by omega) (by omega)
                    have f7 := ivTo_bd hg (h := h.toNat) (i := i.toNat) (by omega) (i - h).toNat (by omega)
                    refine qg (qv_ldi (v := (gv tv (j))) (i := i) Try.plain3 rfl (inVi (ht.row (j) (by omega) (by omega))) (by omega) (by omega)) (want_t g3 rfl rfl rfl) ?_
                    refine qg (qv_mv t rfl) (want_t g3 rfl rfl rfl) ?_
                    refine qg (qv_mv (Value.int .i64 j) rfl) (want_t g3 rfl rfl rfl) ?_
                    refine qg (qv_sub rfl rfl (by omega)) (want_t g3 rfl rfl rfl) ?_
                    refine qg (qv_ia (v := t) (i := j - 1) Try.underlying31 Try.size29 rfl (inV ht.sl) rfl (by omega) (by omega)) (want_t g3 rfl rfl rfl) ?_
                    refine qg (qv_ld (v := t) (i := j - 1) Try.plain29 rfl (inV ht.sl) (by omega) (by omega)) (want_t g3 rfl rfl rfl) ?_
                    refine qg (qv_mv (Value.int .i64 h) rfl) (want_t g3 rfl rfl rfl) ?_
                    refine qg (qv_iai (v := (gv tv (j - 1))) (i := h) Try.underlying29 Try.size3 rfl (inVi (ht.row (j - 1) (by omega) (by omega))) rfl (by omega) (by omega)) (want_t g3 rfl rfl rfl) ?_
                    refine qg (qv_ldi (v := (gv tv (j - 1))) (i := h) Try.plain3 rfl (inVi (ht.row (j - 1) (by omega) (by omega))) (by omega) (by omega)) (want_t g3 rfl rfl rfl) ?_
                    refine qg (qv_mv l rfl) (want_t g3 rfl rfl rfl) ?_
                    refine qg (qv_mv (Value.int .i64 h) rfl) (want_t g3 rfl rfl rfl) ?_
                    refine qg (qv_mv (Value.int .i64 i) rfl) (want_t g3 rfl rfl rfl) ?_
                    refine qg (qv_call (v := (Value.int .i64 (ivTo L h.toNat i.toNat (i - h).toNat))) (linterval_c hl hg (by omega) (by omega) (by omega)) rfl rfl) (want_t g3 rfl rfl rfl) ?_
                    refine qg (qv_add rfl rfl (by omega)) (want_t g3 rfl rfl rfl) ?_
                    refine qg (qv_gtr rfl rfl) (want_t g3 rfl rfl rfl) ?_
                    refine qq (qv_pick_t g3 rfl (rfl : ev _ _ = (Value.bool (decide (((gi (gr T (j - 1)) (h)) + (ivTo L h.toNat i.toNat (i - h).toNat)) < (gi (gr T (j)) (i))))))) ?_
                    refine qops_nil ?_
                    refine vc_if rfl (fun c12 => ?_) (fun c12 => ?_)
                    ·
                      refine vc_seq ?_
                      refine vc_region ?_
                      refine oq (qv_as (Value.int .i64 13) rfl) ?_
                      refine ops_nil ?_
                      refine vc_ret ?_
                      refine blockQ_ret ?_
                      refine blockQ_ret ?_
                      refine blockQ_ret ?_
                      refine blockQ_ret ?_
                      refine blockQ_ret ?_
                      refine blockQ_ret ?_
                      exact rq1 (Value.int .i64 (poE L k T c)) (congrArg (Value.int .i64) (show 13 = (poE L k T c) from by rw [poE_13 hch hk (by omega) hrg hwi (Or.inr (Or.inr fun hx => by have hy := hx j (by omega) (by omega) (by omega) i (by omega) (by omega) h (by omega) (by omega) (by omega); rw [RowOK, ivals_el (by omega) (by omega) (by omega), show i.toNat - h.toNat = (i - h).toNat by omega] at hy; omega))])) rfl
                    ·
                      refine vc_skip ?_
                      refine vc_region ?_
                      refine oq (qv_mv (Value.int .i64 h) rfl) ?_
                      refine oq (qv_add rfl rfl (by omega)) ?_
                      refine oq (qv_as (Value.int .i64 (h + 1)) rfl) ?_
                      refine ops_nil ?_
                      refine ⟨(h + 1), ⟨rfl, rfl, rfl, rfl, rfl, rfl, rfl, rfl, rfl, rfl, rfl, rfl, rfl, rfl, rfl, rfl, rfl, rfl, rfl, (congrArg (Value.int .i64) (show (h + 1) = ((h + 1)) from by omega)), trivial⟩, ⟨rfl, rfl, by omega, by omega, all_snoc h5 (fun q => by first | omega | (rw [RowOK, ivals_el (by omega) (by omega) (by omega), show i.toNat - h.toNat = (i - h).toNat by omega]; omega))⟩, by omega⟩
                  ·
                    have f4 := hT.row j (by omega) (by omega)
                    have f5 := hT.row (j - 1) (by omega) (by omega)
                    have f6 := hT.rng (j - 1) h (by omega) (by omega) (by omega) (by omega)
                    have f7 := ivTo_bd hg (h := h.toNat) (i := i.toNat) (by omega) (i - h).toNat (by omega)
                    refine qs (want_tn g3 rfl rfl rfl) ?_
                    refine qs (want_tn g3 rfl rfl rfl) ?_
                    refine qs (want_tn g3 rfl rfl rfl) ?_
                    refine qs (want_tn g3 rfl rfl rfl) ?_
                    refine qs (want_tn g3 rfl rfl rfl) ?_
                    refine qs (want_tn g3 rfl rfl rfl) ?_
                    have f4 := hT.row j (by omega) (by omega)
                    have f5 := hT.row (j - 1) (by omega) (by omega)
                    have f6 := hT.rng (j - 1) h (by omega) (by omega) (by omega) (by omega)
                    have f7 := ivTo_bd hg (h := h.toNat) (i := i.toNat) (by omega) (i - h).toNat (by omega)
                    refine qs (want_tn g3 rfl rfl rfl) ?_
                    refine qs (want_tn g3 rfl rfl rfl) ?_
                    refine qs (want_tn g3 rfl rfl rfl) ?_
                    refine qs (want_tn g3 rfl rfl rfl) ?_
                    refine qs (want_tn g3 rfl rfl rfl) ?_
                    refine qs (want_tn g3 rfl rfl rfl) ?_
                    refine qs (want_tn g3 rfl rfl rfl) ?_
                    refine qs (want_tn g3 rfl rfl rfl) ?_
                    refine qs (want_tn g3 rfl rfl rfl) ?_
                    refine qs (want_tn g3 rfl rfl rfl) ?_
                    refine qs (want_tn g3 rfl rfl rfl) ?_
                    refine qs (want_tn g3 rfl rfl rfl) ?_
                    refine qs (want_tn g3 rfl rfl rfl) ?_
                    refine qs (want_tn g3 rfl rfl rfl) ?_
                    refine qs (want_tn g3 rfl rfl rfl) ?_
                    refine qq (qv_pick_f g3 rfl (rfl : ev _ _ = (Value.bool false))) ?_
                    refine qops_nil ?_
                    refine vc_ff rfl ?_
                    refine vc_skip ?_
                    refine vc_region ?_
                    refine oq (qv_mv (Value.int .i64 h) rfl) ?_
                    refine oq (qv_add rfl rfl (by omega)) ?_
                    refine oq (qv_as (Value.int .i64 (h + 1)) rfl) ?_
                    refine ops_nil ?_
                    refine ⟨(h + 1), ⟨rfl, rfl, rfl, rfl, rfl, rfl, rfl, rfl, rfl, rfl, rfl, rfl, rfl, rfl, rfl, rfl, rfl, rfl, rfl, (congrArg (Value.int .i64) (show (h + 1) = ((h + 1)) from by omega)), trivial⟩, ⟨rfl, rfl, by omega, by omega, all_snoc h5 (fun q => by first | omega | (rw [RowOK, ivals_el (by omega) (by omega) (by omega), show i.toNat - h.toNat = (i - h).toNat by omega]; omega))⟩, by omega⟩
              ·
                refine vc_exit ?_
                refine blockQ_hit ?_
                refine vc_region ?_
                refine oq (qv_mv (Value.int .i64 i) rfl) ?_
                refine oq (qv_add rfl rfl (by omega)) ?_
                refine oq (qv_as (Value.int .i64 (i + 1)) rfl) ?_
                refine ops_nil ?_
                refine ⟨(i + 1), ⟨rfl, rfl, rfl, rfl, rfl, rfl, rfl, rfl, rfl, rfl, rfl, rfl, rfl, rfl, rfl, rfl, rfl, (congrArg (Value.int .i64) (show (i + 1) = ((i + 1)) from by omega)), trivial⟩, ⟨rfl, rfl, by omega, by omega, all_snoc h4 (fun h a b c => h5 h a (by omega) c)⟩, by omega⟩
            ·
              refine vc_exit ?_
              refine blockQ_hit ?_
              refine vc_region ?_
              refine oq (qv_mv (Value.int .i64 j) rfl) ?_
              refine oq (qv_add rfl rfl (by omega)) ?_
              refine oq (qv_as (Value.int .i64 (j + 1)) rfl) ?_
              refine ops_nil ?_
              refine ⟨(j + 1), ⟨rfl, rfl, rfl, rfl, rfl, rfl, rfl, rfl, rfl, rfl, rfl, rfl, rfl, rfl, rfl, (congrArg (Value.int .i64) (show (j + 1) = ((j + 1)) from by omega)), trivial⟩, ⟨rfl, rfl, by omega, by omega, fun z a b => by
                by_cases hz : z = j
                · subst hz; exact fun y p q => h4 y p (by omega)
                · exact h3 z a (by omega)⟩, by omega⟩
          ·
            refine vc_exit ?_
            refine blockQ_hit ?_
            refine vc_seq ?_
            refine vc_seq ?_
            refine vc_region ?_
            refine oq (qv_mv t rfl) ?_
            refine oq (qv_mv (Value.int .i64 k) rfl) ?_
            refine oq (qv_ia (v := t) (i := k) Try.underlying31 Try.size29 rfl (inV ht.sl) rfl (by omega) (by omega)) ?_
            refine oq (qv_ld (v := t) (i := k) Try.plain29 rfl (inV ht.sl) (by omega) (by omega)) ?_
            refine oq (qv_mv (Value.int .i64 ((rv.length : Int))) rfl) ?_
            refine oq (qv_iai (v := (gv tv (k))) (i := (rv.length : Int)) Try.underlying29 Try.size3 rfl (inVi (ht.row (k) (by omega) (by omega))) rfl (by omega) (by omega)) ?_
            refine oq (qv_ldi (v := (gv tv (k))) (i := (rv.length : Int)) Try.plain3 rfl (inVi (ht.row (k) (by omega) (by omega))) (by omega) (by omega)) ?_
            refine oq (qv_mv (Value.int .i64 c) rfl) ?_
            refine oq (qv_lss rfl rfl) ?_
            refine ops_nil ?_
            refine vc_if rfl (fun c13 => ?_) (fun c13 => ?_)
            ·
              refine vc_seq ?_
              refine vc_region ?_
              refine oq (qv_as (Value.int .i64 13) rfl) ?_
              refine ops_nil ?_
              refine vc_ret ?_
              exact rq1 (Value.int .i64 (poE L k T c)) (congrArg (Value.int .i64) (show 13 = (poE L k T c) from by rw [poE_13 hch hk (by omega) hrg hwi (by first | exact Or.inl (by omega) | exact Or.inr (Or.inl (by rw [← hlen]; omega)))])) rfl
            ·
              refine vc_skip ?_
              refine vc_seq ?_
              refine vc_region ?_
              refine oq (qv_as (Value.int .i64 0) rfl) ?_
              refine ops_nil ?_
              refine vc_ret ?_
              exact rq1 (Value.int .i64 (poE L k T c)) (congrArg (Value.int .i64) (show 0 = (poE L k T c) from by rw [poE_0 hch hk (by omega) hrg hwi (by omega) (by rw [← hlen]; omega) (fun z a b c y d f h p q x => h3 z c (by omega) y d (by have := hT.row z a (by omega); omega) h p q x)])) rfl

end Go.Proofs.Ytmkbjhligjnagaa
