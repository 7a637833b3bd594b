/- Walks of merge: what each function returns. Printed by a program out of notes. -/
import Derived.Test.YtmkbjhligjnagaaMg3
namespace Go.Proofs.Ytmkbjhligjnagaa
open Go.Vc
open Classical

set_option maxRecDepth 100000 in
theorem next_c {V : HV} {l : Value} {rv : List Value} {L : List (List Int)} {s : Value} {sv : List Value} {S : List (List Int)} {i j k : Int} (hl : Mat .i64 V l rv L) (hs : Mat .i64 V s sv S) (hg : Good L) (hS : Tab S rv.length k) (i0 : 0 ≤ i) (i1 : i < rv.length) (j0 : 1 ≤ j) (j1 : j ≤ k) (k1 : k ≤ 32) :
    FnC Try.prog 35 [l, s, (Value.int .i64 i), (Value.int .i64 j)] V [] (fun v _ _ => v = .tuple #[(Value.int .i64 ((nxt L S rv.length i j).1)), (Value.int .i64 ((nxt L S rv.length i j).2))]) := by
  refine fn_intro (N := 51) Try.func35 (by kernel_rfl) rfl rfl rfl (Nat.le_of_ble_eq_true rfl) ?_
  intro w0 D
  have hlen := hl.len
  have hsl := hs.len
  have hle := hg.le
  have hSl := hS.len
  have e3 := hS.row (j - 1) (by omega) (by omega)
  have e4 := hS.row j (by omega) (by omega)
  refine vc_seq ?_
  refine vc_region ?_
  refine oq (qv_as (Value.int .i64 0) rfl) ?_
  refine oq (qv_as (Value.int .i64 0) rfl) ?_
  refine ops_nil ?_
  refine vc_seq ?_
  refine vc_region ?_
  refine oq (qv_mv l rfl) ?_
  refine oq (qv_lenS Try.underlying23 rfl hl.sl) ?_
  refine oq (qv_as (Value.int .i64 ((rv.length : Int))) rfl) ?_
  refine ops_nil ?_
  refine vc_seq ?_
  refine vc_seq ?_
  refine vc_region ?_
  refine oq (qv_mv (Value.int .i64 i) rfl) ?_
  refine oq (qv_as (Value.int .i64 i) rfl) ?_
  refine ops_nil ?_
  refine vc_block ?_
  refine vc_loop (α := Int) (fun (x : Int) => [(0, l), (1, s), (2, (Value.int .i64 i)), (3, (Value.int .i64 j)), (10, (Value.int .i64 ((rv.length : Int)))), (9, (Value.int .i64 x))]) (fun (x : Int) V' σ' => V = V' ∧ [] = σ' ∧ i ≤ x ∧ x ≤ rv.length ∧ nxt L S rv.length i j = scanR L S rv.length i j (rv.length - x).toNat) (fun (x : Int) => (rv.length - x).toNat) (i) ?_ ?_ ?_
  · exact ⟨rfl, rfl, rfl, rfl, rfl, rfl, trivial⟩
  · exact ⟨rfl, rfl, by omega, by omega, rfl⟩
  rintro r e1 V0l σ0l hI0
  obtain ⟨rfl, rfl, i1, i2, hr⟩ : V = V0l ∧ [] = σ0l ∧ i ≤ r ∧ r ≤ rv.length ∧ nxt L S rv.length i j = scanR L S rv.length i j (rv.length - r).toNat := hI0
  refine vc_seq ?_
  refine vc_seq ?_
  refine vc_region ?_
  refine oq (qv_mv (Value.int .i64 r) rfl) ?_
  refine oq (qv_mv (Value.int .i64 ((rv.length : Int))) rfl) ?_
  refine oq (qv_lss rfl rfl) ?_
  refine ops_nil ?_
  refine vc_if rfl (fun c1 => ?_) (fun c1 => ?_)
  ·
    refine vc_skip ?_
    refine vc_seq ?_
    refine vc_block ?_
    refine vc_seq ?_
    refine vc_region ?_
    refine oq (qv_mv (Value.int .i64 ((rv.length : Int))) rfl) ?_
    refine oq (qv_as (Value.int .i64 ((rv.length : Int))) rfl) ?_
    refine ops_nil ?_
    refine vc_block ?_
    refine vc_loop (α := Int) (fun (x : Int) => [(0, l), (1, s), (2, (Value.int .i64 i)), (3, (Value.int .i64 j)), (10, (Value.int .i64 ((rv.length : Int)))), (16, (Value.bool (decide (r < ((rv.length : Int)))))), (8, (Value.int .i64 x)), (9, (Value.int .i64 r))]) (fun (x : Int) V' σ' => V = V' ∧ [] = σ' ∧ r ≤ x ∧ x ≤ rv.length ∧ scanR L S rv.length i j (rv.length - r).toNat = (scanE L S i j r (x - r).toNat).elim (scanR L S rv.length i j (rv.length - (r + 1)).toNat) fun z => (z, r)) (fun (x : Int) => (x - r).toNat) ((rv.length : Int)) ?_ ?_ ?_
    · exact ⟨rfl, rfl, rfl, rfl, rfl, rfl, (congrArg (Value.int .i64) (show ((rv.length : Int)) = (((rv.length : Int))) from by first | omega | simp)), rfl, trivial⟩
    · exact ⟨rfl, rfl, by omega, by omega, scanR_step (by omega)⟩
    rintro e e2 V1l σ1l hI1
    obtain ⟨rfl, rfl, i3, i4, he⟩ : V = V1l ∧ [] = σ1l ∧ r ≤ e ∧ e ≤ rv.length ∧ scanR L S rv.length i j (rv.length - r).toNat = (scanE L S i j r (e - r).toNat).elim (scanR L S rv.length i j (rv.length - (r + 1)).toNat) fun z => (z, r) := hI1
    refine vc_seq ?_
    refine vc_seq ?_
    refine vc_region ?_
    refine oq (qv_mv (Value.int .i64 e) rfl) ?_
    refine oq (qv_mv (Value.int .i64 r) rfl) ?_
    refine oq (qv_gtr rfl rfl) ?_
    refine ops_nil ?_
    refine vc_if rfl (fun c2 => ?_) (fun c2 => ?_)
    ·
      refine vc_skip ?_
      refine vc_seq ?_
      refine vc_block ?_
      refine vc_seq ?_
      have e1 := wsum_bd hg (r := r.toNat) (h := i.toNat) (by omega) (e - i).toNat (by omega)
      have e2 := hS.rng (j - 1) e (by omega) (by omega) (by omega) (by omega)
      refine vc_region_any Try.mixed (by kernel_rfl) ?_
      refine qq (qv_mv l rfl) ?_
      refine qq (qv_mv (Value.int .i64 i) rfl) ?_
      refine qq (qv_mv (Value.int .i64 e) rfl) ?_
      refine qq (qv_mv (Value.int .i64 r) rfl) ?_
      refine qq (qv_call (v := (Value.int .i64 (wsum L r.toNat i.toNat (e - i).toNat))) (whole_c hl hg (by omega) (by omega) (by omega) (by omega) (by omega)) rfl rfl) ?_
      refine qq (qv_mv s rfl) ?_
      refine qq (qv_mv (Value.int .i64 j) rfl) ?_
      refine qq (qv_sub rfl rfl (by omega)) ?_
      refine qq (qv_ia (v := s) (i := j - 1) Try.underlying22 Try.size29 rfl (inV hs.sl) rfl (by omega) (by omega)) ?_
      refine qq (qv_ld (v := s) (i := j - 1) Try.plain29 rfl (inV hs.sl) (by omega) (by omega)) ?_
      refine qq (qv_mv (Value.int .i64 e) rfl) ?_
      refine qq (qv_iai (v := (gv sv (j - 1))) (i := e) Try.underlying29 Try.size3 rfl (inVi (hs.row (j - 1) (by omega) (by omega))) rfl (by omega) (by omega)) ?_
      refine qq (qv_ldi (v := (gv sv (j - 1))) (i := e) Try.plain3 rfl (inVi (hs.row (j - 1) (by omega) (by omega))) (by omega) (by omega)) ?_
      refine qq (qv_add rfl rfl (by omega)) ?_
      refine qq (qv_mv s rfl) ?_
      refine qq (qv_mv (Value.int .i64 j) rfl) ?_
      refine qq (qv_ia (v := s) (i := j) Try.underlying22 Try.size29 rfl (inV hs.sl) rfl (by omega) (by omega)) ?_
      refine qq (qv_ld (v := s) (i := j) Try.plain29 rfl (inV hs.sl) (by omega) (by omega)) ?_
      refine qq (qv_mv (Value.int .i64 i) rfl) ?_
      refine qq (qv_iai (v := (gv sv (j))) (i := i) Try.underlying29 Try.size3 rfl (inVi (hs.row (j) (by omega) (by omega))) rfl (by omega) (by omega)) ?_
      refine qq (qv_ldi (v := (gv sv (j))) (i := i) Try.plain3 rfl (inVi (hs.row (j) (by omega) (by omega))) (by omega) (by omega)) ?_
      refine qq (qv_eql rfl rfl) ?_
      refine qops_nil ?_
      refine vc_if rfl (fun c3 => ?_) (fun c3 => ?_)
      ·
        refine vc_seq ?_
        refine vc_region ?_
        refine oq (qv_mv (Value.int .i64 e) rfl) ?_
        refine oq (qv_mv (Value.int .i64 r) rfl) ?_
        refine oq (qv_as (Value.int .i64 e) rfl) ?_
        refine oq (qv_as (Value.int .i64 r) rfl) ?_
        refine ops_nil ?_
        refine vc_ret ?_
        refine blockQ_ret ?_
        refine blockQ_ret ?_
        refine blockQ_ret ?_
        refine blockQ_ret ?_
        exact rq2 (Value.int .i64 ((nxt L S rv.length i j).1)) (Value.int .i64 ((nxt L S rv.length i j).2)) (congrArg (Value.int .i64) (show e = ((nxt L S rv.length i j).1) from by rw [hr, he, scanE_hit (by omega) c3]; rfl)) (congrArg (Value.int .i64) (show r = ((nxt L S rv.length i j).2) from by rw [hr, he, scanE_hit (by omega) c3]; rfl)) rfl
      ·
        refine vc_skip ?_
        refine vc_region ?_
        refine oq (qv_mv (Value.int .i64 e) rfl) ?_
        refine oq (qv_sub rfl rfl (by omega)) ?_
        refine oq (qv_as (Value.int .i64 (e - 1)) rfl) ?_
        refine ops_nil ?_
        refine ⟨(e - 1), ⟨rfl, rfl, rfl, rfl, rfl, rfl, (congrArg (Value.int .i64) (show (e - 1) = ((e - 1)) from by omega)), rfl, trivial⟩, ⟨rfl, rfl, by omega, by omega, by rw [he, scanE_miss (by omega) c3]⟩, by omega⟩
    ·
      refine vc_exit ?_
      refine blockQ_hit ?_
      refine vc_region ?_
      refine oq (qv_mv (Value.int .i64 r) rfl) ?_
      refine oq (qv_add rfl rfl (by omega)) ?_
      refine oq (qv_as (Value.int .i64 (r + 1)) rfl) ?_
      refine ops_nil ?_
      refine ⟨(r + 1), ⟨rfl, rfl, rfl, rfl, rfl, (congrArg (Value.int .i64) (show (r + 1) = ((r + 1)) from by omega)), trivial⟩, ⟨rfl, rfl, by omega, by omega, by rw [hr, he, show (e - r).toNat = 0 by omega]; rfl⟩, by omega⟩
  ·
    refine vc_exit ?_
    refine blockQ_hit ?_
    refine vc_seq ?_
    refine vc_region ?_
    refine oq (qv_mv (Value.int .i64 ((rv.length : Int))) rfl) ?_
    refine oq (qv_mv (Value.int .i64 i) rfl) ?_
    refine oq (qv_as (Value.int .i64 ((rv.length : Int))) rfl) ?_
    refine oq (qv_as (Value.int .i64 i) rfl) ?_
    refine ops_nil ?_
    refine vc_ret ?_
    exact rq2 (Value.int .i64 ((nxt L S rv.length i j).1)) (Value.int .i64 ((nxt L S rv.length i j).2)) (congrArg (Value.int .i64) (show ((rv.length : Int)) = ((nxt L S rv.length i j).1) from by rw [hr, show (rv.length - r).toNat = 0 by omega]; rfl)) (congrArg (Value.int .i64) (show i = ((nxt L S rv.length i j).2) from by rw [hr, show (rv.length - r).toNat = 0 by omega]; rfl)) rfl

set_option maxRecDepth 100000 in
theorem Ordered_c {V : HV} {l : Value} {rv : List Value} {L : List (List Int)} {k : Int} (hl : Mat .i64 V l rv L) :
    FnC Try.prog 15 [l, (Value.int .i64 k)] V [] (fun v V' σ' => σ' = [] ∧ ∃ g t tv, v = .tuple #[g, .int .i64 (oN L k), t, .int .i64 (oE L k)] ∧ Ints .i64 V' g (oG L k) ∧ Mat .i64 V' t tv (oT L k)) := by
  refine fn_intro (N := 67) Try.func15 (by kernel_rfl) rfl rfl rfl (Nat.le_of_ble_eq_true rfl) ?_
  intro w0 D
  have hlen := hl.len
  refine vc_seq ?_
  refine vc_region ?_
  refine oq (qv_as (Value.slice none 0 0) rfl) ?_
  refine oq (qv_as (Value.int .i64 0) rfl) ?_
  refine oq (qv_as (Value.slice none 0 0) rfl) ?_
  refine oq (qv_as (Value.int .i64 0) rfl) ?_
  refine ops_nil ?_
  refine vc_seq ?_
  refine vc_seq ?_
  refine vc_region ?_
  refine oq (qv_mv l rfl) ?_
  refine oq (qv_call (v := (Value.int .i64 (chk L))) (Check_c hl) rfl rfl) ?_
  refine oq (qv_as (Value.int .i64 (chk L)) rfl) ?_
  refine ops_nil ?_
  refine vc_seq ?_
  refine vc_region ?_
  refine oq (qv_mv (Value.int .i64 (chk L)) rfl) ?_
  refine oq (qv_neq rfl rfl) ?_
  refine ops_nil ?_
  refine vc_if rfl (fun c1 => ?_) (fun c1 => ?_)
  ·
    refine vc_seq ?_
    refine vc_region ?_
    refine oq (qv_mv (Value.int .i64 (chk L)) rfl) ?_
    refine oq (qv_as (Value.slice none 0 0) rfl) ?_
    refine oq (qv_as (Value.int .i64 0) rfl) ?_
    refine oq (qv_as (Value.slice none 0 0) rfl) ?_
    refine oq (qv_as (Value.int .i64 (chk L)) rfl) ?_
    refine ops_nil ?_
    refine vc_ret ?_
    refine rq4 (Value.slice none 0 0) (Value.int .i64 0) (Value.slice none 0 0) (Value.int .i64 (chk L)) rfl rfl rfl rfl ?_
    obtain ⟨b1, b2, b3⟩ := ord_bad (show oE L k ≠ 0 by rw [oE1 (by omega)]; omega)
    exact ⟨rfl, _, _, [], by rw [b2, oE1 (by omega)], b1 ▸ Ints.nil, b3 ▸ Mat.nil⟩
  ·
    refine vc_skip ?_
    refine vc_seq ?_
    refine vc_seq ?_
    refine vc_region ?_
    refine oq (qv_mv (Value.int .i64 k) rfl) ?_
    refine oq (qv_call (v := (Value.bool (decide (1 ≤ k ∧ k ≤ 32)))) (groups_c) rfl rfl) ?_
    refine oq (qv_not rfl) ?_
    refine ops_nil ?_
    refine vc_if rfl (fun c2 => ?_) (fun c2 => ?_)
    ·
      refine vc_seq ?_
      refine vc_region ?_
      refine oq (qv_as (Value.slice none 0 0) rfl) ?_
      refine oq (qv_as (Value.int .i64 0) rfl) ?_
      refine oq (qv_as (Value.slice none 0 0) rfl) ?_
      refine oq (qv_as (Value.int .i64 3) rfl) ?_
      refine ops_nil ?_
      refine vc_ret ?_
      refine rq4 (Value.slice none 0 0) (Value.int .i64 0) (Value.slice none 0 0) (Value.int .i64 3) rfl rfl rfl rfl ?_
      obtain ⟨b1, b2, b3⟩ := ord_bad (show oE L k ≠ 0 by rw [oE3 (by omega) (by assumption)]; omega)
      exact ⟨rfl, _, _, [], by rw [b2, oE3 (by omega) (by assumption)], b1 ▸ Ints.nil, b3 ▸ Mat.nil⟩
    ·
      refine vc_skip ?_
      refine vc_seq ?_
      refine vc_region ?_
      refine oq (qv_mv l rfl) ?_
      refine oq (qv_lenS Try.underlying23 rfl hl.sl) ?_
      refine oq (qv_as (Value.int .i64 ((rv.length : Int))) rfl) ?_
      refine ops_nil ?_
      refine vc_seq ?_
      have hg := good_of_chk (show chk L = 0 from by omega)
      have hk : 1 ≤ k ∧ k ≤ 32 := by omega
      have hC : Costs (ivals L) rv.length := hlen ▸ costs_ivals hg
      have hT : Tab (sufs (ivals L) rv.length k) rv.length k := tab_sufs hC (by omega)
      have hle := hg.le
      refine vc_region ?_
      refine oq (qv_mv l rfl) ?_
      refine ops_call (σa := []) (σr := []) (intervals_c hl hg) rfl rfl (.refl _) (fun r1 V1 sg1 hV1 hp1 => ?_)
      obtain ⟨rfl, cv, hc⟩ := hp1
      have hl := hl.mono hV1
      refine oq (qv_as r1 rfl) ?_
      refine ops_nil ?_
      refine vc_seq ?_
      refine vc_region ?_
      refine oq (qv_mv r1 rfl) ?_
      refine oq (qv_mv (Value.int .i64 ((rv.length : Int))) rfl) ?_
      refine oq (qv_mv (Value.int .i64 k) rfl) ?_
      refine ops_call (σa := []) (σr := []) (suffixes_c hc hC hk.1 hk.2) rfl rfl (.refl _) (fun r2 V2 sg2 hV2 hp2 => ?_)
      obtain ⟨rfl, sv, hs⟩ := hp2
      have hl := hl.mono hV2
      have hc := hc.mono hV2
      refine oq (qv_as r2 rfl) ?_
      refine ops_nil ?_
      refine vc_seq ?_
      refine vc_region ?_
      refine oq (qv_as (Value.slice none 0 0) rfl) ?_
      refine ops_nil ?_
      refine vc_seq ?_
      refine vc_seq ?_
      refine vc_nil 3 1 ?_
      refine vc_region ?_
      refine oq (qv_mv (Value.int .i64 k) rfl) ?_
      refine oq (qv_as (Value.int .i64 0) rfl) ?_
      refine oq (qv_as (Value.int .i64 k) rfl) ?_
      refine ops_nil ?_
      refine vc_block ?_
      refine vc_loop (α := Int × Int × Value × List Int) (fun (x : Int × Int × Value × List Int) => [(0, l), (1, (Value.int .i64 k)), (4, (Value.slice none 0 0)), (5, (Value.int .i64 0)), (6, (Value.slice none 0 0)), (7, (Value.int .i64 0)), (8, (Value.int .i64 (chk L))), (9, (Value.int .i64 ((rv.length : Int)))), (10, r1), (11, r2), (20, (Value.bool (decide ((chk L) ≠ 0)))), (24, (Value.bool (decide (¬ (1 ≤ k ∧ k ≤ 32))))), (12, x.2.2.1), (13, (Value.int .i64 x.1)), (14, (Value.int .i64 x.2.1))]) (fun (x : Int × Int × Value × List Int) V' σ' => V2 = V' ∧ [(Gr 3 1 x.2.2.1 x.2.2.2.length ((x.2.2.2.map (Value.int .i64))))] = σ' ∧ 0 ≤ x.1 ∧ x.1 ≤ rv.length ∧ 0 ≤ x.2.1 ∧ x.2.1 ≤ k ∧ x.2.2.2.length = x.1 ∧ gi (gr (sufs (ivals L) rv.length k) x.2.1) x.1 < 1152921504606846976 ∧ ordG L (sufs (ivals L) rv.length k) rv.length k.toNat 0 = x.2.2.2 ++ ordG L (sufs (ivals L) rv.length k) rv.length x.2.1.toNat x.1) (fun (x : Int × Int × Value × List Int) => x.2.1.toNat) (0, k, (Value.slice none 0 0), []) ?_ ?_ ?_
      · exact ⟨rfl, rfl, rfl, rfl, rfl, rfl, rfl, rfl, rfl, rfl, rfl, rfl, (by first | rfl | (first | omega | simp)), rfl, rfl, trivial⟩
      · exact (show V2 = V2 ∧ [(Gr 3 1 ((Value.slice none 0 0) : Value) ([] : List Int).length ((([] : List Int).map (Value.int .i64))))] = [(Gr 3 1 ((Value.slice none 0 0)) 0 ([]))] ∧ 0 ≤ (0 : Int) ∧ (0 : Int) ≤ rv.length ∧ 0 ≤ k ∧ k ≤ k ∧ ([] : List Int).length = (0 : Int) ∧ gi (gr (sufs (ivals L) rv.length k) k) (0 : Int) < 1152921504606846976 ∧ ordG L (sufs (ivals L) rv.length k) rv.length k.toNat 0 = ([] : List Int) ++ ordG L (sufs (ivals L) rv.length k) rv.length k.toNat (0 : Int) from ⟨rfl, rfl, by omega, by omega, by omega, by omega, rfl, by rw [sufs_row _ _ _ _ (by omega) (by omega), show ((rv.length : Int)).toNat = L.length by omega]; exact suf_fin hg (by omega), rfl⟩)
      rintro ⟨i, j, v, xs⟩ e1 V0l σ0l hI0
      obtain ⟨rfl, rfl, i1, i2, i3, i4, i5, hfin, hG⟩ : V2 = V0l ∧ [(Gr 3 1 v xs.length ((xs.map (Value.int .i64))))] = σ0l ∧ 0 ≤ i ∧ i ≤ rv.length ∧ 0 ≤ j ∧ j ≤ k ∧ xs.length = i ∧ gi (gr (sufs (ivals L) rv.length k) j) i < 1152921504606846976 ∧ ordG L (sufs (ivals L) rv.length k) rv.length k.toNat 0 = xs ++ ordG L (sufs (ivals L) rv.length k) rv.length j.toNat i := hI0
      change VC _ _ _ _ _ _ (upds 67 [(0, l), (1, (Value.int .i64 k)), (4, (Value.slice none 0 0)), (5, (Value.int .i64 0)), (6, (Value.slice none 0 0)), (7, (Value.int .i64 0)), (8, (Value.int .i64 (chk L))), (9, (Value.int .i64 ((rv.length : Int)))), (10, r1), (11, r2), (20, (Value.bool (decide ((chk L) ≠ 0)))), (24, (Value.bool (decide (¬ (1 ≤ k ∧ k ≤ 32))))), (12, v), (13, (Value.int .i64 i)), (14, (Value.int .i64 j))] e1) _ _
      refine vc_seq ?_
      refine vc_seq ?_
      refine vc_region ?_
      refine oq (qv_mv (Value.int .i64 i) rfl) ?_
      refine oq (qv_mv (Value.int .i64 ((rv.length : Int))) rfl) ?_
      refine oq (qv_lss rfl rfl) ?_
      refine ops_nil ?_
      refine vc_if rfl (fun c3 => ?_) (fun c3 => ?_)
      ·
        refine vc_skip ?_
        refine vc_seq ?_
        refine vc_block ?_
        refine vc_seq ?_
        obtain ⟨q0, q1, q2, q3, q4, q5⟩ := ord_round (show (rv.length : Int) = L.length by omega) (by omega) (by omega) (by omega) (by omega) hfin
        have w0 := (wsum_bd hg (r := (nxt L (sufs (ivals L) rv.length k) rv.length i j).2.toNat) (h := i.toNat) (by omega) ((nxt L (sufs (ivals L) rv.length k) rv.length i j).1 - i).toNat (by omega)).1
        refine vc_region ?_
        refine oq (qv_mv l rfl) ?_
        refine oq (qv_mv r2 rfl) ?_
        refine oq (qv_mv (Value.int .i64 i) rfl) ?_
        refine oq (qv_mv (Value.int .i64 j) rfl) ?_
        refine oq (qv_call (v := (Value.tuple #[(Value.int .i64 ((nxt L (sufs (ivals L) rv.length k) rv.length i j).1)), (Value.int .i64 ((nxt L (sufs (ivals L) rv.length k) rv.length i j).2))])) (next_c hl hs hg hT (by omega) (by omega) (by omega) (by omega) hk.2) rfl rfl) ?_
        refine oq (qv_mv (Value.tuple #[(Value.int .i64 ((nxt L (sufs (ivals L) rv.length k) rv.length i j).1)), (Value.int .i64 ((nxt L (sufs (ivals L) rv.length k) rv.length i j).2))]) rfl) ?_
        refine oq (qv_ext (Value.int .i64 ((nxt L (sufs (ivals L) rv.length k) rv.length i j).1)) rfl rfl) ?_
        refine oq (qv_ext (Value.int .i64 ((nxt L (sufs (ivals L) rv.length k) rv.length i j).2)) rfl rfl) ?_
        refine oq (qv_as (Value.int .i64 ((nxt L (sufs (ivals L) rv.length k) rv.length i j).1)) rfl) ?_
        refine oq (qv_as (Value.int .i64 ((nxt L (sufs (ivals L) rv.length k) rv.length i j).2)) rfl) ?_
        refine ops_nil ?_
        refine vc_block ?_
        refine vc_loop (α := Int × Value × List Int) (fun (x : Int × Value × List Int) => [(0, l), (1, (Value.int .i64 k)), (4, (Value.slice none 0 0)), (5, (Value.int .i64 0)), (6, (Value.slice none 0 0)), (7, (Value.int .i64 0)), (8, (Value.int .i64 (chk L))), (9, (Value.int .i64 ((rv.length : Int)))), (10, r1), (11, r2), (14, (Value.int .i64 j)), (15, (Value.int .i64 ((nxt L (sufs (ivals L) rv.length k) rv.length i j).1))), (16, (Value.int .i64 ((nxt L (sufs (ivals L) rv.length k) rv.length i j).2))), (20, (Value.bool (decide ((chk L) ≠ 0)))), (24, (Value.bool (decide (¬ (1 ≤ k ∧ k ≤ 32))))), (36, (Value.bool (decide (i < ((rv.length : Int)))))), (12, x.2.1), (13, (Value.int .i64 x.1))]) (fun (x : Int × Value × List Int) V' σ' => V2 = V' ∧ [(Gr 3 1 x.2.1 x.2.2.length ((x.2.2.map (Value.int .i64))))] = σ' ∧ i ≤ x.1 ∧ x.1 ≤ (nxt L (sufs (ivals L) rv.length k) rv.length i j).1 ∧ x.2.2.length = x.1 ∧ x.2.2 = xs ++ List.replicate (x.1 - i).toNat (nxt L (sufs (ivals L) rv.length k) rv.length i j).2) (fun (x : Int × Value × List Int) => ((nxt L (sufs (ivals L) rv.length k) rv.length i j).1 - x.1).toNat) (i, v, xs) ?_ ?_ ?_
        · exact ⟨rfl, rfl, rfl, rfl, rfl, rfl, rfl, rfl, rfl, rfl, rfl, rfl, rfl, rfl, rfl, rfl, rfl, rfl, trivial⟩
        · exact (show V2 = V2 ∧ [(Gr 3 1 v xs.length ((xs.map (Value.int .i64))))] = [(Gr 3 1 v xs.length ((xs.map (Value.int .i64))))] ∧ i ≤ i ∧ i ≤ (nxt L (sufs (ivals L) rv.length k) rv.length i j).1 ∧ xs.length = i ∧ xs = xs ++ List.replicate (i - i).toNat (nxt L (sufs (ivals L) rv.length k) rv.length i j).2 from ⟨rfl, rfl, by omega, by omega, by omega, by simp⟩)
        rintro ⟨y, u, ys⟩ e2 V1l σ1l hI1
        obtain ⟨rfl, rfl, i6, i7, i8, hys⟩ : V2 = V1l ∧ [(Gr 3 1 u ys.length ((ys.map (Value.int .i64))))] = σ1l ∧ i ≤ y ∧ y ≤ (nxt L (sufs (ivals L) rv.length k) rv.length i j).1 ∧ ys.length = y ∧ ys = xs ++ List.replicate (y - i).toNat (nxt L (sufs (ivals L) rv.length k) rv.length i j).2 := hI1
        change VC _ _ _ _ _ _ (upds 67 [(0, l), (1, (Value.int .i64 k)), (4, (Value.slice none 0 0)), (5, (Value.int .i64 0)), (6, (Value.slice none 0 0)), (7, (Value.int .i64 0)), (8, (Value.int .i64 (chk L))), (9, (Value.int .i64 ((rv.length : Int)))), (10, r1), (11, r2), (14, (Value.int .i64 j)), (15, (Value.int .i64 ((nxt L (sufs (ivals L) rv.length k) rv.length i j).1))), (16, (Value.int .i64 ((nxt L (sufs (ivals L) rv.length k) rv.length i j).2))), (20, (Value.bool (decide ((chk L) ≠ 0)))), (24, (Value.bool (decide (¬ (1 ≤ k ∧ k ≤ 32))))), (36, (Value.bool (decide (i < ((rv.length : Int)))))), (12, u), (13, (Value.int .i64 y))] e2) _ _
        refine vc_seq ?_
        refine vc_seq ?_
        refine vc_region ?_
        refine oq (qv_mv (Value.int .i64 y) rfl) ?_
        refine oq (qv_mv (Value.int .i64 ((nxt L (sufs (ivals L) rv.length k) rv.length i j).1)) rfl) ?_
        refine oq (qv_lss rfl rfl) ?_
        refine ops_nil ?_
        refine vc_if rfl (fun c4 => ?_) (fun c4 => ?_)
        ·
          refine vc_skip ?_
          refine vc_seq ?_
          refine vc_block ?_
          refine vc_region ?_
          refine oq (qv_mv u rfl) ?_
          refine oq (qv_mv (Value.int .i64 ((nxt L (sufs (ivals L) rv.length k) rv.length i j).2)) rfl) ?_
          refine ops_lit (n := 1) (s := 1) (cs := [(Value.int .i64 ((nxt L (sufs (ivals L) rv.length k) rv.length i j).2))]) Try.underlying30 Try.ti3 (Nat.le_of_ble_eq_true rfl) rfl rfl rfl (Nat.le_of_ble_eq_true rfl) rfl (fun b1 => ?_)
          refine ops_append (k := 0) (n := ys.length) (s := 1) (m := 1) (v := u) (xs := (ys.map (Value.int .i64))) (news := [(Value.int .i64 ((nxt L (sufs (ivals L) rv.length k) rv.length i j).2))]) Try.underlying30 Try.ti3 rfl (Nat.le_of_ble_eq_true rfl) rfl rfl rfl rfl (news_own (j := 1) rfl) (by simp [Value.oneCell']) (by omega) (by simp only [maxLen]; omega) (fun v1 hn1 => ?_)
          refine oq (qv_as v1 rfl) ?_
          refine ops_nil ?_
          refine vc_drop [(Gr 3 1 v1 ((ys.length + 1)) (((ys.map (Value.int .i64)) ++ [(Value.int .i64 ((nxt L (sufs (ivals L) rv.length k) rv.length i j).2))])))] [(Arr 3 b1 [(Value.int .i64 ((nxt L (sufs (ivals L) rv.length k) rv.length i j).2))])] ((List.perm_middle (l₁ := [(Gr 3 1 v1 ((ys.length + 1)) (((ys.map (Value.int .i64)) ++ [(Value.int .i64 ((nxt L (sufs (ivals L) rv.length k) rv.length i j).2))])))]) (l₂ := [])).trans (List.perm_append_comm (l₁ := [(Arr 3 b1 [(Value.int .i64 ((nxt L (sufs (ivals L) rv.length k) rv.length i j).2))])]))) ?_
          refine vc_region ?_
          refine oq (qv_mv (Value.int .i64 y) rfl) ?_
          refine oq (qv_add rfl rfl (by omega)) ?_
          refine oq (qv_as (Value.int .i64 (y + 1)) rfl) ?_
          refine ops_nil ?_
          refine ⟨(y + 1, v1, ys ++ [(nxt L (sufs (ivals L) rv.length k) rv.length i j).2]), ⟨rfl, rfl, rfl, rfl, rfl, rfl, rfl, rfl, rfl, rfl, rfl, rfl, rfl, rfl, rfl, rfl, rfl, (congrArg (Value.int .i64) (show (y + 1) = ((y + 1)) from by omega)), trivial⟩, (show V2 = V2 ∧ [(Gr 3 1 v1 (ys ++ [(nxt L (sufs (ivals L) rv.length k) rv.length i j).2] : List Int).length (((ys ++ [(nxt L (sufs (ivals L) rv.length k) rv.length i j).2] : List Int).map (Value.int .i64))))] = [(Gr 3 1 v1 ((ys.length + 1)) (((ys.map (Value.int .i64)) ++ [(Value.int .i64 ((nxt L (sufs (ivals L) rv.length k) rv.length i j).2))])))] ∧ i ≤ (y + 1 : Int) ∧ (y + 1 : Int) ≤ (nxt L (sufs (ivals L) rv.length k) rv.length i j).1 ∧ (ys ++ [(nxt L (sufs (ivals L) rv.length k) rv.length i j).2] : List Int).length = (y + 1 : Int) ∧ (ys ++ [(nxt L (sufs (ivals L) rv.length k) rv.length i j).2] : List Int) = xs ++ List.replicate ((y + 1 : Int) - i).toNat (nxt L (sufs (ivals L) rv.length k) rv.length i j).2 from ⟨rfl, (show [(Gr 3 1 v1 (ys ++ [(nxt L (sufs (ivals L) rv.length k) rv.length i j).2]).length (((ys ++ [(nxt L (sufs (ivals L) rv.length k) rv.length i j).2]).map (Value.int .i64))))] = [(Gr 3 1 v1 ((ys.length + 1)) (((ys.map (Value.int .i64)) ++ [(Value.int .i64 ((nxt L (sufs (ivals L) rv.length k) rv.length i j).2))])))] from by simp), by omega, by omega, by simp; omega, by rw [hys, show (y + 1 - i).toNat = (y - i).toNat + 1 by omega, List.replicate_succ', List.append_assoc]⟩), show ((nxt L (sufs (ivals L) rv.length k) rv.length i j).1 - (y + 1)).toNat < ((nxt L (sufs (ivals L) rv.length k) rv.length i j).1 - y).toNat from by omega⟩
        ·
          refine vc_exit ?_
          refine blockQ_hit ?_
          refine vc_region ?_
          refine oq (qv_mv (Value.int .i64 j) rfl) ?_
          refine oq (qv_sub rfl rfl (by omega)) ?_
          refine oq (qv_as (Value.int .i64 (j - 1)) rfl) ?_
          refine ops_nil ?_
          refine ⟨(y, j - 1, u, ys), ⟨rfl, rfl, rfl, rfl, rfl, rfl, rfl, rfl, rfl, rfl, rfl, rfl, rfl, rfl, (congrArg (Value.int .i64) (show (j - 1) = ((j - 1)) from by omega)), trivial⟩, (show V2 = V2 ∧ [(Gr 3 1 u ys.length ((ys.map (Value.int .i64))))] = [(Gr 3 1 u ys.length ((ys.map (Value.int .i64))))] ∧ 0 ≤ y ∧ y ≤ rv.length ∧ 0 ≤ (j - 1 : Int) ∧ (j - 1 : Int) ≤ k ∧ ys.length = y ∧ gi (gr (sufs (ivals L) rv.length k) (j - 1 : Int)) y < 1152921504606846976 ∧ ordG L (sufs (ivals L) rv.length k) rv.length k.toNat 0 = ys ++ ordG L (sufs (ivals L) rv.length k) rv.length (j - 1 : Int).toNat y from ⟨rfl, rfl, by omega, by omega, by omega, by omega, by omega, by rw [show y = (nxt L (sufs (ivals L) rv.length k) rv.length i j).1 by omega]; omega, by rw [hG, q5, hys, List.append_assoc, show y = (nxt L (sufs (ivals L) rv.length k) rv.length i j).1 by omega]⟩), show (j - 1).toNat < j.toNat from by omega⟩
      ·
        refine vc_exit ?_
        refine blockQ_hit ?_
        refine vc_seq ?_
        have hsl := hs.len
        have hTl := hT.len
        have hTr := hT.row k (by omega) (by omega)
        have hoe := oE0 (show chk L = 0 from by omega) hk
        obtain ⟨o1, o2, o3⟩ := ord_good hoe
        refine vc_freezeG (v := v) (E := 3) (n := xs.length) (xs := (xs.map (Value.int .i64))) (σr := []) (List.perm_middle (l₁ := []) (l₂ := [])) (fun Vf1 hVf1 hc1 => ?_)
        have hl := hl.mono hVf1
        have hc := hc.mono hVf1
        have hs := hs.mono hVf1
        refine vc_region_order (τ := []) [(0, false), (1, false), (2, false), (3, false), (4, false), (5, false), (6, false), (7, false), (8, false), (9, false), (10, true), (11, false), (12, false), (13, false), (14, false)] [] Try.mixed (perm_nil _) (by kernel_rfl) ?_
        refine rq rfl (qv_mv v rfl) ?_
        refine rq rfl (qv_mv r2 rfl) ?_
        refine rq rfl (qv_mv (Value.int .i64 k) rfl) ?_
        refine rq rfl (qv_ia (v := r2) (i := k) Try.underlying22 Try.size29 rfl (inV hs.sl) rfl (by omega) (by omega)) ?_
        refine rq rfl (qv_ld (v := r2) (i := k) Try.plain29 rfl (inV hs.sl) (by omega) (by omega)) ?_
        refine rq rfl (qv_iai (v := (gv sv (k))) (i := 0) Try.underlying29 Try.size3 rfl (inVi (hs.row (k) (by omega) (by omega))) rfl (by omega) (by omega)) ?_
        refine rq rfl (qv_ldi (v := (gv sv (k))) (i := 0) Try.plain3 rfl (inVi (hs.row (k) (by omega) (by omega))) (by omega) (by omega)) ?_
        refine rq rfl (qv_mv r1 rfl) ?_
        refine rq rfl (qv_mv (Value.int .i64 ((rv.length : Int))) rfl) ?_
        refine rq rfl (qv_mv (Value.int .i64 k) rfl) ?_
        refine rl rfl ?_
        refine ops_call (σa := []) (σr := []) (prefixes_c hc hC hk.1 hk.2) rfl rfl (.refl _) (fun r3 V3 sg3 hV3 hp3 => ?_)
        obtain ⟨rfl, tv, ht⟩ := hp3
        have hl := hl.mono hV3
        have hc := hc.mono hV3
        have hs := hs.mono hV3
        have hc1 := hc1.mono hV3
        refine ops_nil ⟨[], [], hV3, perm_nil _, ⟨[], (.refl _)⟩, ?_⟩
        refine rq rfl (qv_as v rfl) ?_
        refine rq rfl (qv_as (Value.int .i64 (gi (gr (sufs (ivals L) rv.length k) (k)) (0))) rfl) ?_
        refine rq rfl (qv_as r3 rfl) ?_
        refine rq rfl (qv_as (Value.int .i64 0) rfl) ?_
        refine rnil ?_
        refine vc_ret ?_
        refine rq4 v (Value.int .i64 (gi (gr (sufs (ivals L) rv.length k) (k)) (0))) r3 (Value.int .i64 0) rfl rfl rfl rfl ?_
        refine ⟨rfl, v, r3, tv, by rw [o2, hoe, ← hlen], ?_, by rw [o3, ← hlen]; exact ht⟩
        rw [o1, ← hlen, hG]
        have hz : ordG L (sufs (ivals L) rv.length k) rv.length j.toNat i = [] := by
          cases hjj : j.toNat with
          | zero => rfl
          | succ m => rw [ordG, if_neg (by omega)]
        rw [hz, List.append_nil]; exact hc1

end Go.Proofs.Ytmkbjhligjnagaa
