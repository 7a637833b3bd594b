/- Walks of merge: what each function returns. Printed by a program out of notes. -/
import Derived.Test.YtmkbjhligjnagaaMg5
namespace Go.Proofs.Ytmkbjhligjnagaa
open Go.Vc
open Classical

set_option maxRecDepth 100000 in
theorem Cost_c {V : HV} {l : Value} {rv : List Value} {L : List (List Int)} {g : Value} {G : List Int} (hl : Mat .i64 V l rv L) (hgg : Ints .i64 V g G) :
    FnC Try.prog 23 [l, g] V [] (fun v _ _ => v = .tuple #[(Value.int .i64 (cN L G)), (Value.int .i64 (cE L G))]) := by
  refine fn_intro (N := 61) Try.func23 (by kernel_rfl) rfl rfl rfl (Nat.le_of_ble_eq_true rfl) ?_
  intro w0 D
  have hlen := hl.len
  have hbg := hgg.bound
  refine vc_seq ?_
  refine vc_region ?_
  refine oq (qv_as (Value.int .i64 0) rfl) ?_
  refine oq (qv_as (Value.int .i64 0) rfl) ?_
  refine ops_nil ?_
  refine vc_seq ?_
  refine vc_seq ?_
  refine vc_region ?_
  refine oq (qv_mv l rfl) ?_
  refine oq (qv_call (v := (Value.int .i64 (chk L))) (Check_c hl) rfl rfl) ?_
  refine oq (qv_as (Value.int .i64 (chk L)) rfl) ?_
  refine ops_nil ?_
  refine vc_seq ?_
  refine vc_region ?_
  refine oq (qv_mv (Value.int .i64 (chk L)) rfl) ?_
  refine oq (qv_neq rfl rfl) ?_
  refine ops_nil ?_
  refine vc_if rfl (fun c1 => ?_) (fun c1 => ?_)
  ·
    refine vc_seq ?_
    refine vc_region ?_
    refine oq (qv_mv (Value.int .i64 (chk L)) rfl) ?_
    refine oq (qv_as (Value.int .i64 0) rfl) ?_
    refine oq (qv_as (Value.int .i64 (chk L)) rfl) ?_
    refine ops_nil ?_
    refine vc_ret ?_
    exact rq2 (Value.int .i64 (cN L G)) (Value.int .i64 (cE L G)) (congrArg (Value.int .i64) (show 0 = (cN L G) from by rw [cN_bad (by rw [cE_chk (by omega)]; omega)])) (congrArg (Value.int .i64) (show (chk L) = (cE L G) from by rw [cE_chk (by omega)])) rfl
  ·
    refine vc_skip ?_
    refine vc_seq ?_
    refine vc_seq ?_
    have hch : chk L = 0 := by omega
    have hg := good_of_chk hch
    have hle := hg.le
    refine vc_region ?_
    refine oq (qv_mv g rfl) ?_
    refine oq (qv_lenI Try.underlying30 rfl hgg) ?_
    refine oq (qv_mv l rfl) ?_
    refine oq (qv_lenS Try.underlying23 rfl hl.sl) ?_
    refine oq (qv_neq rfl rfl) ?_
    refine ops_nil ?_
    refine vc_if rfl (fun c2 => ?_) (fun c2 => ?_)
    ·
      refine vc_seq ?_
      refine vc_region ?_
      refine oq (qv_as (Value.int .i64 0) rfl) ?_
      refine oq (qv_as (Value.int .i64 2) rfl) ?_
      refine ops_nil ?_
      refine vc_ret ?_
      exact rq2 (Value.int .i64 (cN L G)) (Value.int .i64 (cE L G)) (congrArg (Value.int .i64) (show 0 = (cN L G) from by rw [cN_bad (by rw [cE_g hch, gE_2 (by omega)]; omega)])) (congrArg (Value.int .i64) (show 2 = (cE L G) from by rw [cE_g hch, gE_2 (by omega)])) rfl
    ·
      refine vc_skip ?_
      refine vc_seq ?_
      refine vc_seq ?_
      refine vc_region ?_
      refine oq (qv_mv g rfl) ?_
      refine oq (qv_lenI Try.underlying30 rfl hgg) ?_
      refine oq (qv_mv (Value.int .i64 0) rfl) ?_
      refine ops_nil ?_
      refine vc_block ?_
      refine vc_loop (α := Int) (fun (xx : Int) => [(0, l), (1, g), (6, (Value.int .i64 (chk L))), (15, (Value.bool (decide ((chk L) ≠ 0)))), (21, (Value.bool (decide (((G.length : Int)) ≠ ((rv.length : Int)))))), (22, g), (23, (Value.int .i64 ((G.length : Int)))), (24, (Value.int .i64 xx))]) (fun (xx : Int) V' σ' => V = V' ∧ [] = σ' ∧ 0 ≤ xx ∧ xx ≤ G.length ∧ ∀ x : Int, 0 ≤ x → x < xx → ¬ (gi G x < 0 ∨ (L.length : Int) ≤ gi G x)) (fun (xx : Int) => (G.length - xx).toNat) (0) ?_ ?_ ?_
      · exact ⟨rfl, rfl, rfl, rfl, rfl, rfl, rfl, rfl, trivial⟩
      · exact ⟨rfl, rfl, by omega, by omega, fun x a b => by omega⟩
      rintro p e1 V0l σ0l hI0
      obtain ⟨rfl, rfl, i1, i2, hp⟩ : V = V0l ∧ [] = σ0l ∧ 0 ≤ p ∧ p ≤ G.length ∧ ∀ x : Int, 0 ≤ x → x < p → ¬ (gi G x < 0 ∨ (L.length : Int) ≤ gi G x) := hI0
      refine vc_seq ?_
      refine vc_region ?_
      refine oq (qv_lss rfl rfl) ?_
      refine ops_nil ?_
      refine vc_seq ?_
      refine vc_if rfl (fun c3 => ?_) (fun c3 => ?_)
      ·
        refine vc_skip ?_
        refine vc_seq ?_
        refine vc_block ?_
        refine vc_seq ?_
        refine vc_region ?_
        refine oq (qv_iai (v := g) (i := p) Try.underlying30 Try.size3 rfl (inVi hgg) rfl (by omega) (by omega)) ?_
        refine oq (qv_ldi (v := g) (i := p) Try.plain3 rfl (inVi hgg) (by omega) (by omega)) ?_
        refine oq (qv_as (Value.int .i64 (gi G (p))) rfl) ?_
        refine ops_nil ?_
        refine vc_seq ?_
        refine vc_region ?_
        refine oq (qv_mv (Value.int .i64 (gi G (p))) rfl) ?_
        refine oq (qv_lss rfl rfl) ?_
        refine oq (qv_mv (Value.bool (decide ((gi G (p)) < 0))) rfl) ?_
        by_cases g1 : (gi G (p)) < 0
        ·
          refine os (want_fn g1 rfl rfl rfl) ?_
          refine os (want_fn g1 rfl rfl rfl) ?_
          refine os (want_fn g1 rfl rfl rfl) ?_
          refine os (want_fn g1 rfl rfl rfl) ?_
          refine oq (qv_pick_t g1 rfl (rfl : ev _ _ = (Value.bool true))) ?_
          refine ops_nil ?_
          refine vc_tt rfl ?_
          refine vc_seq ?_
          refine vc_region ?_
          refine oq (qv_as (Value.int .i64 0) rfl) ?_
          refine oq (qv_as (Value.int .i64 3) rfl) ?_
          refine ops_nil ?_
          refine vc_ret ?_
          refine blockQ_ret ?_
          refine blockQ_ret ?_
          exact rq2 (Value.int .i64 (cN L G)) (Value.int .i64 (cE L G)) (congrArg (Value.int .i64) (show 0 = (cN L G) from by rw [cN_bad (by rw [cE_g hch, gE_3 (by omega) ⟨p, by omega, by omega, by omega⟩]; omega)])) (congrArg (Value.int .i64) (show 3 = (cE L G) from by rw [cE_g hch, gE_3 (by omega) ⟨p, by omega, by omega, by omega⟩])) rfl
        ·
          refine og (qv_mv (Value.int .i64 (gi G (p))) rfl) (want_f g1 rfl rfl rfl) ?_
          refine og (qv_mv l rfl) (want_f g1 rfl rfl rfl) ?_
          refine og (qv_lenS Try.underlying23 rfl hl.sl) (want_f g1 rfl rfl rfl) ?_
          refine og (qv_geq rfl rfl) (want_f g1 rfl rfl rfl) ?_
          refine oq (qv_pick_f g1 rfl (rfl : ev _ _ = (Value.bool (decide (((rv.length : Int)) ≤ (gi G (p))))))) ?_
          refine ops_nil ?_
          refine vc_if rfl (fun c4 => ?_) (fun c4 => ?_)
          ·
            refine vc_seq ?_
            refine vc_region ?_
            refine oq (qv_as (Value.int .i64 0) rfl) ?_
            refine oq (qv_as (Value.int .i64 3) rfl) ?_
            refine ops_nil ?_
            refine vc_ret ?_
            refine blockQ_ret ?_
            refine blockQ_ret ?_
            exact rq2 (Value.int .i64 (cN L G)) (Value.int .i64 (cE L G)) (congrArg (Value.int .i64) (show 0 = (cN L G) from by rw [cN_bad (by rw [cE_g hch, gE_3 (by omega) ⟨p, by omega, by omega, by omega⟩]; omega)])) (congrArg (Value.int .i64) (show 3 = (cE L G) from by rw [cE_g hch, gE_3 (by omega) ⟨p, by omega, by omega, by omega⟩])) rfl
          ·
            refine vc_skip ?_
            refine vc_region ?_
            refine oq (qv_add rfl rfl (by omega)) ?_
            refine oq (qv_mv (Value.int .i64 (p + 1)) rfl) ?_
            refine ops_nil ?_
            refine ⟨(p + 1), ⟨rfl, rfl, rfl, rfl, rfl, rfl, rfl, (congrArg (Value.int .i64) (show (p + 1) = ((p + 1)) from by omega)), trivial⟩, ⟨rfl, rfl, by omega, by omega, all_snoc hp (by omega)⟩, by omega⟩
      ·
        refine vc_exit ?_
        refine blockQ_hit ?_
        refine vc_seq ?_
        have hout : ¬ Out L G := fun ⟨x, a, b, c⟩ => hp x a (by omega) c
        refine vc_region ?_
        refine oq (qv_as (Value.int .i64 0) rfl) ?_
        refine ops_nil ?_
        refine vc_seq ?_
        refine vc_seq ?_
        refine vc_region ?_
        refine oq (qv_mv g rfl) ?_
        refine oq (qv_lenI Try.underlying30 rfl hgg) ?_
        refine oq (qv_mv (Value.int .i64 0) rfl) ?_
        refine ops_nil ?_
        refine vc_block ?_
        refine vc_loop (α := Int) (fun (xx : Int) => [(0, l), (1, g), (6, (Value.int .i64 (chk L))), (15, (Value.bool (decide ((chk L) ≠ 0)))), (21, (Value.bool (decide (((G.length : Int)) ≠ ((rv.length : Int)))))), (22, g), (23, (Value.int .i64 ((G.length : Int)))), (24, (Value.int .i64 p)), (25, (Value.bool (decide (p < ((G.length : Int)))))), (37, g), (38, (Value.int .i64 ((G.length : Int)))), (9, (Value.int .i64 (csum L G xx.toNat))), (39, (Value.int .i64 xx))]) (fun (xx : Int) V' σ' => V = V' ∧ [] = σ' ∧ 0 ≤ xx ∧ xx ≤ G.length ∧ ∀ x : Int, 0 ≤ x → x < xx → gi G (gi G x) = gi G x) (fun (xx : Int) => (G.length - xx).toNat) (0) ?_ ?_ ?_
        · exact ⟨rfl, rfl, rfl, rfl, rfl, rfl, rfl, rfl, rfl, rfl, rfl, (congrArg (Value.int .i64) (show 0 = (csum L G (0 : Int).toNat) from by rfl)), rfl, trivial⟩
        · exact ⟨rfl, rfl, by omega, by omega, fun x a b => by omega⟩
        rintro q e2 V1l σ1l hI1
        obtain ⟨rfl, rfl, i1, i3, hq⟩ : V = V1l ∧ [] = σ1l ∧ 0 ≤ q ∧ q ≤ G.length ∧ ∀ x : Int, 0 ≤ x → x < q → gi G (gi G x) = gi G x := hI1
        refine vc_seq ?_
        refine vc_region ?_
        refine oq (qv_lss rfl rfl) ?_
        refine ops_nil ?_
        refine vc_seq ?_
        refine vc_if rfl (fun c5 => ?_) (fun c5 => ?_)
        ·
          refine vc_skip ?_
          refine vc_seq ?_
          refine vc_block ?_
          refine vc_seq ?_
          refine vc_region ?_
          refine oq (qv_mv (Value.int .i64 q) rfl) ?_
          refine oq (qv_iai (v := g) (i := q) Try.underlying30 Try.size3 rfl (inVi hgg) rfl (by omega) (by omega)) ?_
          refine oq (qv_ldi (v := g) (i := q) Try.plain3 rfl (inVi hgg) (by omega) (by omega)) ?_
          refine oq (qv_as (Value.int .i64 q) rfl) ?_
          refine oq (qv_as (Value.int .i64 (gi G (q))) rfl) ?_
          refine ops_nil ?_
          refine vc_seq ?_
          refine vc_seq ?_
          have e2 := hp q (by omega) (by omega)
          refine vc_region ?_
          refine oq (qv_mv g rfl) ?_
          refine oq (qv_mv (Value.int .i64 (gi G (q))) rfl) ?_
          refine oq (qv_iai (v := g) (i := gi G (q)) Try.underlying30 Try.size3 rfl (inVi hgg) rfl (by omega) (by omega)) ?_
          refine oq (qv_ldi (v := g) (i := gi G (q)) Try.plain3 rfl (inVi hgg) (by omega) (by omega)) ?_
          refine oq (qv_mv (Value.int .i64 (gi G (q))) rfl) ?_
          refine oq (qv_neq rfl rfl) ?_
          refine ops_nil ?_
          refine vc_if rfl (fun c6 => ?_) (fun c6 => ?_)
          ·
            refine vc_seq ?_
            refine vc_region ?_
            refine oq (qv_as (Value.int .i64 0) rfl) ?_
            refine oq (qv_as (Value.int .i64 15) rfl) ?_
            refine ops_nil ?_
            refine vc_ret ?_
            refine blockQ_ret ?_
            refine blockQ_ret ?_
            exact rq2 (Value.int .i64 (cN L G)) (Value.int .i64 (cE L G)) (congrArg (Value.int .i64) (show 0 = (cN L G) from by rw [cN_bad (by rw [cE_g hch, gE_15 (by omega) hout ⟨q, by omega, by omega, by omega⟩]; omega)])) (congrArg (Value.int .i64) (show 15 = (cE L G) from by rw [cE_g hch, gE_15 (by omega) hout ⟨q, by omega, by omega, by omega⟩])) rfl
          ·
            refine vc_skip ?_
            have e1 := csum_step L G i1
            have e3 := csum_bd hg hout q.toNat (by omega) (by omega)
            have e4 := hg.row q (by omega) (by omega)
            have e5 := hg.el q (gi G q) (by omega) (by omega) (by omega) (by omega)
            refine vc_region ?_
            refine oq (qv_mv (Value.int .i64 (csum L G q.toNat)) rfl) ?_
            refine oq (qv_mv l rfl) ?_
            refine oq (qv_mv (Value.int .i64 q) rfl) ?_
            refine oq (qv_ia (v := l) (i := q) Try.underlying23 Try.size29 rfl (inV hl.sl) rfl (by omega) (by omega)) ?_
            refine oq (qv_ld (v := l) (i := q) Try.plain29 rfl (inV hl.sl) (by omega) (by omega)) ?_
            refine oq (qv_mv (Value.int .i64 (gi G (q))) rfl) ?_
            refine oq (qv_iai (v := (gv rv (q))) (i := gi G (q)) Try.underlying29 Try.size3 rfl (inVi (hl.row (q) (by omega) (by omega))) rfl (by omega) (by omega)) ?_
            refine oq (qv_ldi (v := (gv rv (q))) (i := gi G (q)) Try.plain3 rfl (inVi (hl.row (q) (by omega) (by omega))) (by omega) (by omega)) ?_
            refine oq (qv_add rfl rfl (by omega)) ?_
            refine oq (qv_as (Value.int .i64 ((csum L G q.toNat) + (gi (gr L (q)) (gi G (q))))) rfl) ?_
            refine ops_nil ?_
            refine vc_region ?_
            refine oq (qv_add rfl rfl (by omega)) ?_
            refine oq (qv_mv (Value.int .i64 (q + 1)) rfl) ?_
            refine ops_nil ?_
            refine ⟨(q + 1), ⟨rfl, rfl, rfl, rfl, rfl, rfl, rfl, rfl, rfl, rfl, rfl, (congrArg (Value.int .i64) (show ((csum L G q.toNat) + (gi (gr L (q)) (gi G (q)))) = (csum L G (q + 1 : Int).toNat) from by omega)), (congrArg (Value.int .i64) (show (q + 1) = ((q + 1)) from by rfl)), trivial⟩, ⟨rfl, rfl, by omega, by omega, all_snoc hq (by omega)⟩, by omega⟩
        ·
          refine vc_exit ?_
          refine blockQ_hit ?_
          refine vc_seq ?_
          refine vc_region ?_
          refine oq (qv_mv (Value.int .i64 (csum L G q.toNat)) rfl) ?_
          refine oq (qv_as (Value.int .i64 (csum L G q.toNat)) rfl) ?_
          refine oq (qv_as (Value.int .i64 0) rfl) ?_
          refine ops_nil ?_
          refine vc_ret ?_
          exact rq2 (Value.int .i64 (cN L G)) (Value.int .i64 (cE L G)) (congrArg (Value.int .i64) (show (csum L G q.toNat) = (cN L G) from by rw [cN_good (by rw [cE_g hch, gE_0 (by omega) hout (fun ⟨x, a, b, c⟩ => c (hq x a (by omega)))]), show q.toNat = G.length by omega])) (congrArg (Value.int .i64) (show 0 = (cE L G) from by rw [cE_g hch, gE_0 (by omega) hout (fun ⟨x, a, b, c⟩ => c (hq x a (by omega)))])) rfl

set_option maxRecDepth 100000 in
theorem lcost_c {V : HV} {l : Value} {rv : List Value} {L : List (List Int)} {g : Value} {G : List Int} (hl : Mat .i64 V l rv L) (hgg : Ints .i64 V g G) (hg : Good L) :
    FnC Try.prog 20 [l, g] V [] (fun v _ _ => v = .tuple #[(Value.int .i64 (gN L G)), (Value.int .i64 (gE L G))]) := by
  refine fn_intro (N := 55) Try.func20 (by kernel_rfl) rfl rfl rfl (Nat.le_of_ble_eq_true rfl) ?_
  intro w0 D
  have hlen := hl.len
  have hbg := hgg.bound
  have hle := hg.le
  refine vc_seq ?_
  refine vc_region ?_
  refine oq (qv_as (Value.int .i64 0) rfl) ?_
  refine oq (qv_as (Value.int .i64 0) rfl) ?_
  refine ops_nil ?_
  refine vc_seq ?_
  refine vc_seq ?_
  refine vc_region ?_
  refine oq (qv_mv g rfl) ?_
  refine oq (qv_lenI Try.underlying30 rfl hgg) ?_
  refine oq (qv_mv l rfl) ?_
  refine oq (qv_lenS Try.underlying23 rfl hl.sl) ?_
  refine oq (qv_neq rfl rfl) ?_
  refine ops_nil ?_
  refine vc_if rfl (fun c1 => ?_) (fun c1 => ?_)
  ·
    refine vc_seq ?_
    refine vc_region ?_
    refine oq (qv_as (Value.int .i64 0) rfl) ?_
    refine oq (qv_as (Value.int .i64 2) rfl) ?_
    refine ops_nil ?_
    refine vc_ret ?_
    exact rq2 (Value.int .i64 (gN L G)) (Value.int .i64 (gE L G)) (congrArg (Value.int .i64) (show 0 = (gN L G) from by rw [gN_bad (by rw [gE_2 (by omega)]; omega)])) (congrArg (Value.int .i64) (show 2 = (gE L G) from by rw [gE_2 (by omega)])) rfl
  ·
    refine vc_skip ?_
    refine vc_seq ?_
    refine vc_seq ?_
    refine vc_region ?_
    refine oq (qv_mv g rfl) ?_
    refine oq (qv_lenI Try.underlying30 rfl hgg) ?_
    refine oq (qv_mv (Value.int .i64 0) rfl) ?_
    refine ops_nil ?_
    refine vc_block ?_
    refine vc_loop (α := Int) (fun (xx : Int) => [(0, l), (1, g), (15, (Value.bool (decide (((G.length : Int)) ≠ ((rv.length : Int)))))), (16, g), (17, (Value.int .i64 ((G.length : Int)))), (18, (Value.int .i64 xx))]) (fun (xx : Int) V' σ' => V = V' ∧ [] = σ' ∧ 0 ≤ xx ∧ xx ≤ G.length ∧ ∀ x : Int, 0 ≤ x → x < xx → ¬ (gi G x < 0 ∨ (L.length : Int) ≤ gi G x)) (fun (xx : Int) => (G.length - xx).toNat) (0) ?_ ?_ ?_
    · exact ⟨rfl, rfl, rfl, rfl, rfl, rfl, trivial⟩
    · exact ⟨rfl, rfl, by omega, by omega, fun x a b => by omega⟩
    rintro p e1 V0l σ0l hI0
    obtain ⟨rfl, rfl, i1, i2, hp⟩ : V = V0l ∧ [] = σ0l ∧ 0 ≤ p ∧ p ≤ G.length ∧ ∀ x : Int, 0 ≤ x → x < p → ¬ (gi G x < 0 ∨ (L.length : Int) ≤ gi G x) := hI0
    refine vc_seq ?_
    refine vc_region ?_
    refine oq (qv_lss rfl rfl) ?_
    refine ops_nil ?_
    refine vc_seq ?_
    refine vc_if rfl (fun c2 => ?_) (fun c2 => ?_)
    ·
      refine vc_skip ?_
      refine vc_seq ?_
      refine vc_block ?_
      refine vc_seq ?_
      refine vc_region ?_
      refine oq (qv_iai (v := g) (i := p) Try.underlying30 Try.size3 rfl (inVi hgg) rfl (by omega) (by omega)) ?_
      refine oq (qv_ldi (v := g) (i := p) Try.plain3 rfl (inVi hgg) (by omega) (by omega)) ?_
      refine oq (qv_as (Value.int .i64 (gi G (p))) rfl) ?_
      refine ops_nil ?_
      refine vc_seq ?_
      refine vc_region ?_
      refine oq (qv_mv (Value.int .i64 (gi G (p))) rfl) ?_
      refine oq (qv_lss rfl rfl) ?_
      refine oq (qv_mv (Value.bool (decide ((gi G (p)) < 0))) rfl) ?_
      by_cases g1 : (gi G (p)) < 0
      ·
        refine os (want_fn g1 rfl rfl rfl) ?_
        refine os (want_fn g1 rfl rfl rfl) ?_
        refine os (want_fn g1 rfl rfl rfl) ?_
        refine os (want_fn g1 rfl rfl rfl) ?_
        refine oq (qv_pick_t g1 rfl (rfl : ev _ _ = (Value.bool true))) ?_
        refine ops_nil ?_
        refine vc_tt rfl ?_
        refine vc_seq ?_
        refine vc_region ?_
        refine oq (qv_as (Value.int .i64 0) rfl) ?_
        refine oq (qv_as (Value.int .i64 3) rfl) ?_
        refine ops_nil ?_
        refine vc_ret ?_
        refine blockQ_ret ?_
        refine blockQ_ret ?_
        exact rq2 (Value.int .i64 (gN L G)) (Value.int .i64 (gE L G)) (congrArg (Value.int .i64) (show 0 = (gN L G) from by rw [gN_bad (by rw [gE_3 (by omega) ⟨p, by omega, by omega, by omega⟩]; omega)])) (congrArg (Value.int .i64) (show 3 = (gE L G) from by rw [gE_3 (by omega) ⟨p, by omega, by omega, by omega⟩])) rfl
      ·
        refine og (qv_mv (Value.int .i64 (gi G (p))) rfl) (want_f g1 rfl rfl rfl) ?_
        refine og (qv_mv l rfl) (want_f g1 rfl rfl rfl) ?_
        refine og (qv_lenS Try.underlying23 rfl hl.sl) (want_f g1 rfl rfl rfl) ?_
        refine og (qv_geq rfl rfl) (want_f g1 rfl rfl rfl) ?_
        refine oq (qv_pick_f g1 rfl (rfl : ev _ _ = (Value.bool (decide (((rv.length : Int)) ≤ (gi G (p))))))) ?_
        refine ops_nil ?_
        refine vc_if rfl (fun c3 => ?_) (fun c3 => ?_)
        ·
          refine vc_seq ?_
          refine vc_region ?_
          refine oq (qv_as (Value.int .i64 0) rfl) ?_
          refine oq (qv_as (Value.int .i64 3) rfl) ?_
          refine ops_nil ?_
          refine vc_ret ?_
          refine blockQ_ret ?_
          refine blockQ_ret ?_
          exact rq2 (Value.int .i64 (gN L G)) (Value.int .i64 (gE L G)) (congrArg (Value.int .i64) (show 0 = (gN L G) from by rw [gN_bad (by rw [gE_3 (by omega) ⟨p, by omega, by omega, by omega⟩]; omega)])) (congrArg (Value.int .i64) (show 3 = (gE L G) from by rw [gE_3 (by omega) ⟨p, by omega, by omega, by omega⟩])) rfl
        ·
          refine vc_skip ?_
          refine vc_region ?_
          refine oq (qv_add rfl rfl (by omega)) ?_
          refine oq (qv_mv (Value.int .i64 (p + 1)) rfl) ?_
          refine ops_nil ?_
          refine ⟨(p + 1), ⟨rfl, rfl, rfl, rfl, rfl, (congrArg (Value.int .i64) (show (p + 1) = ((p + 1)) from by omega)), trivial⟩, ⟨rfl, rfl, by omega, by omega, all_snoc hp (by omega)⟩, by omega⟩
    ·
      refine vc_exit ?_
      refine blockQ_hit ?_
      refine vc_seq ?_
      have hout : ¬ Out L G := fun ⟨x, a, b, c⟩ => hp x a (by omega) c
      refine vc_region ?_
      refine oq (qv_as (Value.int .i64 0) rfl) ?_
      refine ops_nil ?_
      refine vc_seq ?_
      refine vc_seq ?_
      refine vc_region ?_
      refine oq (qv_mv g rfl) ?_
      refine oq (qv_lenI Try.underlying30 rfl hgg) ?_
      refine oq (qv_mv (Value.int .i64 0) rfl) ?_
      refine ops_nil ?_
      refine vc_block ?_
      refine vc_loop (α := Int) (fun (xx : Int) => [(0, l), (1, g), (15, (Value.bool (decide (((G.length : Int)) ≠ ((rv.length : Int)))))), (16, g), (17, (Value.int .i64 ((G.length : Int)))), (18, (Value.int .i64 p)), (19, (Value.bool (decide (p < ((G.length : Int)))))), (31, g), (32, (Value.int .i64 ((G.length : Int)))), (8, (Value.int .i64 (csum L G xx.toNat))), (33, (Value.int .i64 xx))]) (fun (xx : Int) V' σ' => V = V' ∧ [] = σ' ∧ 0 ≤ xx ∧ xx ≤ G.length ∧ ∀ x : Int, 0 ≤ x → x < xx → gi G (gi G x) = gi G x) (fun (xx : Int) => (G.length - xx).toNat) (0) ?_ ?_ ?_
      · exact ⟨rfl, rfl, rfl, rfl, rfl, rfl, rfl, rfl, rfl, (congrArg (Value.int .i64) (show 0 = (csum L G (0 : Int).toNat) from by rfl)), rfl, trivial⟩
      · exact ⟨rfl, rfl, by omega, by omega, fun x a b => by omega⟩
      rintro q e2 V1l σ1l hI1
      obtain ⟨rfl, rfl, i1, i3, hq⟩ : V = V1l ∧ [] = σ1l ∧ 0 ≤ q ∧ q ≤ G.length ∧ ∀ x : Int, 0 ≤ x → x < q → gi G (gi G x) = gi G x := hI1
      refine vc_seq ?_
      refine vc_region ?_
      refine oq (qv_lss rfl rfl) ?_
      refine ops_nil ?_
      refine vc_seq ?_
      refine vc_if rfl (fun c4 => ?_) (fun c4 => ?_)
      ·
        refine vc_skip ?_
        refine vc_seq ?_
        refine vc_block ?_
        refine vc_seq ?_
        refine vc_region ?_
        refine oq (qv_mv (Value.int .i64 q) rfl) ?_
        refine oq (qv_iai (v := g) (i := q) Try.underlying30 Try.size3 rfl (inVi hgg) rfl (by omega) (by omega)) ?_
        refine oq (qv_ldi (v := g) (i := q) Try.plain3 rfl (inVi hgg) (by omega) (by omega)) ?_
        refine oq (qv_as (Value.int .i64 q) rfl) ?_
        refine oq (qv_as (Value.int .i64 (gi G (q))) rfl) ?_
        refine ops_nil ?_
        refine vc_seq ?_
        refine vc_seq ?_
        have e2 := hp q (by omega) (by omega)
        refine vc_region ?_
        refine oq (qv_mv g rfl) ?_
        refine oq (qv_mv (Value.int .i64 (gi G (q))) rfl) ?_
        refine oq (qv_iai (v := g) (i := gi G (q)) Try.underlying30 Try.size3 rfl (inVi hgg) rfl (by omega) (by omega)) ?_
        refine oq (qv_ldi (v := g) (i := gi G (q)) Try.plain3 rfl (inVi hgg) (by omega) (by omega)) ?_
        refine oq (qv_mv (Value.int .i64 (gi G (q))) rfl) ?_
        refine oq (qv_neq rfl rfl) ?_
        refine ops_nil ?_
        refine vc_if rfl (fun c5 => ?_) (fun c5 => ?_)
        ·
          refine vc_seq ?_
          refine vc_region ?_
          refine oq (qv_as (Value.int .i64 0) rfl) ?_
          refine oq (qv_as (Value.int .i64 15) rfl) ?_
          refine ops_nil ?_
          refine vc_ret ?_
          refine blockQ_ret ?_
          refine blockQ_ret ?_
          exact rq2 (Value.int .i64 (gN L G)) (Value.int .i64 (gE L G)) (congrArg (Value.int .i64) (show 0 = (gN L G) from by rw [gN_bad (by rw [gE_15 (by omega) hout ⟨q, by omega, by omega, by omega⟩]; omega)])) (congrArg (Value.int .i64) (show 15 = (gE L G) from by rw [gE_15 (by omega) hout ⟨q, by omega, by omega, by omega⟩])) rfl
        ·
          refine vc_skip ?_
          have e1 := csum_step L G i1
          have e3 := csum_bd hg hout q.toNat (by omega) (by omega)
          have e4 := hg.row q (by omega) (by omega)
          have e5 := hg.el q (gi G q) (by omega) (by omega) (by omega) (by omega)
          refine vc_region ?_
          refine oq (qv_mv (Value.int .i64 (csum L G q.toNat)) rfl) ?_
          refine oq (qv_mv l rfl) ?_
          refine oq (qv_mv (Value.int .i64 q) rfl) ?_
          refine oq (qv_ia (v := l) (i := q) Try.underlying23 Try.size29 rfl (inV hl.sl) rfl (by omega) (by omega)) ?_
          refine oq (qv_ld (v := l) (i := q) Try.plain29 rfl (inV hl.sl) (by omega) (by omega)) ?_
          refine oq (qv_mv (Value.int .i64 (gi G (q))) rfl) ?_
          refine oq (qv_iai (v := (gv rv (q))) (i := gi G (q)) Try.underlying29 Try.size3 rfl (inVi (hl.row (q) (by omega) (by omega))) rfl (by omega) (by omega)) ?_
          refine oq (qv_ldi (v := (gv rv (q))) (i := gi G (q)) Try.plain3 rfl (inVi (hl.row (q) (by omega) (by omega))) (by omega) (by omega)) ?_
          refine oq (qv_add rfl rfl (by omega)) ?_
          refine oq (qv_as (Value.int .i64 ((csum L G q.toNat) + (gi (gr L (q)) (gi G (q))))) rfl) ?_
          refine ops_nil ?_
          refine vc_region ?_
          refine oq (qv_add rfl rfl (by omega)) ?_
          refine oq (qv_mv (Value.int .i64 (q + 1)) rfl) ?_
          refine ops_nil ?_
          refine ⟨(q + 1), ⟨rfl, rfl, rfl, rfl, rfl, rfl, rfl, rfl, rfl, (congrArg (Value.int .i64) (show ((csum L G q.toNat) + (gi (gr L (q)) (gi G (q)))) = (csum L G (q + 1 : Int).toNat) from by omega)), (congrArg (Value.int .i64) (show (q + 1) = ((q + 1)) from by rfl)), trivial⟩, ⟨rfl, rfl, by omega, by omega, all_snoc hq (by omega)⟩, by omega⟩
      ·
        refine vc_exit ?_
        refine blockQ_hit ?_
        refine vc_seq ?_
        refine vc_region ?_
        refine oq (qv_mv (Value.int .i64 (csum L G q.toNat)) rfl) ?_
        refine oq (qv_as (Value.int .i64 (csum L G q.toNat)) rfl) ?_
        refine oq (qv_as (Value.int .i64 0) rfl) ?_
        refine ops_nil ?_
        refine vc_ret ?_
        exact rq2 (Value.int .i64 (gN L G)) (Value.int .i64 (gE L G)) (congrArg (Value.int .i64) (show (csum L G q.toNat) = (gN L G) from by rw [gN_good (by rw [gE_0 (by omega) hout (fun ⟨x, a, b, c⟩ => c (hq x a (by omega)))]), show q.toNat = G.length by omega])) (congrArg (Value.int .i64) (show 0 = (gE L G) from by rw [gE_0 (by omega) hout (fun ⟨x, a, b, c⟩ => c (hq x a (by omega)))])) rfl

set_option maxRecDepth 100000 in
theorem Equal_c {V : HV} {a b : Value} {A B : List Int} (ha : Ints .i64 V a A) (hb : Ints .i64 V b B) :
    FnC Try.prog 17 [a, b] V [] (fun v _ _ => v = (Value.bool (decide (A = B)))) := by
  refine fn_intro (N := 26) Try.func17 (by kernel_rfl) rfl rfl rfl (Nat.le_of_ble_eq_true rfl) ?_
  intro w0 D
  have h1 := ha.bound
  have h2 := hb.bound
  refine vc_seq ?_
  refine vc_region ?_
  refine oq (qv_as (Value.bool false) rfl) ?_
  refine ops_nil ?_
  refine vc_seq ?_
  refine vc_seq ?_
  refine vc_region ?_
  refine oq (qv_mv a rfl) ?_
  refine oq (qv_lenI Try.underlying30 rfl ha) ?_
  refine oq (qv_mv b rfl) ?_
  refine oq (qv_lenI Try.underlying30 rfl hb) ?_
  refine oq (qv_neq rfl rfl) ?_
  refine ops_nil ?_
  refine vc_if rfl (fun c1 => ?_) (fun c1 => ?_)
  ·
    refine vc_seq ?_
    refine vc_region ?_
    refine oq (qv_as (Value.bool false) rfl) ?_
    refine ops_nil ?_
    refine vc_ret ?_
    exact rq1 (Value.bool (decide (A = B))) (congrArg Value.bool (decide_eq_false (show ¬ (A = B) from by intro hx; subst hx; omega)).symm) rfl
  ·
    refine vc_skip ?_
    refine vc_seq ?_
    refine vc_seq ?_
    refine vc_region ?_
    refine oq (qv_mv a rfl) ?_
    refine oq (qv_lenI Try.underlying30 rfl ha) ?_
    refine oq (qv_mv (Value.int .i64 0) rfl) ?_
    refine ops_nil ?_
    refine vc_block ?_
    refine vc_loop (α := Int) (fun (xx : Int) => [(0, a), (1, b), (10, (Value.bool (decide (((A.length : Int)) ≠ ((B.length : Int)))))), (12, (Value.int .i64 ((A.length : Int)))), (13, (Value.int .i64 xx))]) (fun (xx : Int) V' σ' => V = V' ∧ [] = σ' ∧ 0 ≤ xx ∧ xx ≤ A.length ∧ ∀ x : Int, 0 ≤ x → x < xx → gi A x = gi B x) (fun (xx : Int) => (A.length - xx).toNat) (0) ?_ ?_ ?_
    · exact ⟨rfl, rfl, rfl, rfl, rfl, trivial⟩
    · exact ⟨rfl, rfl, by omega, by omega, fun x a b => by omega⟩
    rintro p e1 V0l σ0l hI0
    obtain ⟨rfl, rfl, i1, i2, hp⟩ : V = V0l ∧ [] = σ0l ∧ 0 ≤ p ∧ p ≤ A.length ∧ ∀ x : Int, 0 ≤ x → x < p → gi A x = gi B x := hI0
    refine vc_seq ?_
    refine vc_region ?_
    refine oq (qv_lss rfl rfl) ?_
    refine ops_nil ?_
    refine vc_seq ?_
    refine vc_if rfl (fun c2 => ?_) (fun c2 => ?_)
    ·
      refine vc_skip ?_
      refine vc_seq ?_
      refine vc_block ?_
      refine vc_seq ?_
      refine vc_region ?_
      refine oq (qv_mv (Value.int .i64 p) rfl) ?_
      refine oq (qv_as (Value.int .i64 p) rfl) ?_
      refine ops_nil ?_
      refine vc_seq ?_
      refine vc_region_any Try.mixed (by kernel_rfl) ?_
      refine qq (qv_mv a rfl) ?_
      refine qq (qv_mv (Value.int .i64 p) rfl) ?_
      refine qq (qv_iai (v := a) (i := p) Try.underlying30 Try.size3 rfl (inVi ha) rfl (by omega) (by omega)) ?_
      refine qq (qv_ldi (v := a) (i := p) Try.plain3 rfl (inVi ha) (by omega) (by omega)) ?_
      refine qq (qv_mv b rfl) ?_
      refine qq (qv_mv (Value.int .i64 p) rfl) ?_
      refine qq (qv_iai (v := b) (i := p) Try.underlying30 Try.size3 rfl (inVi hb) rfl (by omega) (by omega)) ?_
      refine qq (qv_ldi (v := b) (i := p) Try.plain3 rfl (inVi hb) (by omega) (by omega)) ?_
      refine qq (qv_neq rfl rfl) ?_
      refine qops_nil ?_
      refine vc_if rfl (fun c3 => ?_) (fun c3 => ?_)
      ·
        refine vc_seq ?_
        refine vc_region ?_
        refine oq (qv_as (Value.bool false) rfl) ?_
        refine ops_nil ?_
        refine vc_ret ?_
        refine blockQ_ret ?_
        refine blockQ_ret ?_
        exact rq1 (Value.bool (decide (A = B))) (congrArg Value.bool (decide_eq_false (show ¬ (A = B) from by intro hx; subst hx; omega)).symm) rfl
      ·
        refine vc_skip ?_
        refine vc_region ?_
        refine oq (qv_add rfl rfl (by omega)) ?_
        refine oq (qv_mv (Value.int .i64 (p + 1)) rfl) ?_
        refine ops_nil ?_
        refine ⟨(p + 1), ⟨rfl, rfl, rfl, rfl, (congrArg (Value.int .i64) (show (p + 1) = ((p + 1)) from by omega)), trivial⟩, ⟨rfl, rfl, by omega, by omega, all_snoc hp (by omega)⟩, by omega⟩
    ·
      refine vc_exit ?_
      refine blockQ_hit ?_
      refine vc_seq ?_
      refine vc_region ?_
      refine oq (qv_as (Value.bool true) rfl) ?_
      refine ops_nil ?_
      refine vc_ret ?_
      exact rq1 (Value.bool (decide (A = B))) (congrArg Value.bool (decide_eq_true (show (A = B) from by exact ext_gi (by omega) (fun x a b => hp x a (by omega)))).symm) rfl

end Go.Proofs.Ytmkbjhligjnagaa
