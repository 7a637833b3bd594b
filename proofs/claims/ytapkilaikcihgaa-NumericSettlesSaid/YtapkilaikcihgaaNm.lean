/- Walks of numeric: what each function returns. Printed by a program out of notes. -/
import Derived.Test.YtapkilaikcihgaaNl
import Derived.Test.YtapkilaikcihgaaNmY
import Derived.Test.YtapkilaikcihgaaVcY
import Derived.Test.YtapkilaikcihgaaSrt
namespace Go.Proofs.Ytapkilaikcihgaa
open Go.Vc
open Classical

set_option maxRecDepth 100000 in
set_option maxHeartbeats 4000000 in
theorem CloneNil_c {V : HV} {cap : Nat} :
    FnC Try.prog 81 [(Value.slice none 0 cap)] V [] (fun v V' σ' => σ' = [Gr 3 1 v 0 []]) := by
  refine fn_intro (N := 8) Try.func81 (by kernel_rfl) rfl rfl rfl (Nat.le_of_ble_eq_true rfl) ?_
  intro w0 D
  refine vc_seq ?_
  refine vc_region ?_
  refine oq (qv_as (Value.slice none 0 0) rfl) ?_
  refine ops_nil ?_
  refine vc_seq ?_
  refine vc_seq ?_
  refine vc_region ?_
  refine oq (qv_mv (Value.slice none 0 cap) rfl) ?_
  refine oq (qv_eqnil Try.underlying37 rfl rfl) ?_
  refine ops_nil ?_
  refine vc_tt rfl ?_
  refine vc_seq ?_
  refine vc_nil 3 1 ?_
  refine vc_region ?_
  refine oq (qv_as (Value.slice none 0 0) rfl) ?_
  refine ops_nil ?_
  refine vc_ret ?_
  refine rq1 (Value.slice none 0 0) rfl ?_
  exact rfl

set_option maxRecDepth 100000 in
set_option maxHeartbeats 4000000 in
theorem CloneSome_c {V : HV} {ad : Addr} {m c : Nat} {xs : List Int} (hl : xs.length = m) (hb : m ≤ 1000000) (hn : ∀ w, Vc.Sub V (hv w) → ∀ (j : Nat) (u : Value), (xs.map (Value.int .i64))[j]? = some u → w.cell? (ad.add j) = some u) :
    FnC Try.prog 81 [(Value.slice (some ad) m c)] V [] (fun v V' σ' => σ' = [Gr 3 1 v m (xs.map (Value.int .i64))]) := by
  refine fn_intro (N := 8) Try.func81 (by kernel_rfl) rfl rfl rfl (Nat.le_of_ble_eq_true rfl) ?_
  intro w0 D
  refine vc_seq ?_
  refine vc_region ?_
  refine oq (qv_as (Value.slice none 0 0) rfl) ?_
  refine ops_nil ?_
  refine vc_seq ?_
  refine vc_seq ?_
  refine vc_region ?_
  refine oq (qv_mv (Value.slice (some ad) m c) rfl) ?_
  refine oq (qv_eqnil Try.underlying37 rfl rfl) ?_
  refine ops_nil ?_
  refine vc_ff rfl ?_
  refine vc_skip ?_
  refine vc_seq ?_
  refine vc_region ?_
  refine ops_lit (n := 0) (s := 1) (cs := []) Try.underlying37 Try.ti3 (Nat.le_of_ble_eq_true rfl) rfl rfl rfl (Nat.le_of_ble_eq_true rfl) rfl (fun b1 => ?_)
  refine oq (qv_mv (Value.slice (some ad) m c) rfl) ?_
  refine ops_to_gr (k := 0) (b := b1) (n := 0) (cap := 0) (cs := #[]) 1 [] rfl rfl (Nat.le_refl _) (Nat.zero_le _) rfl rfl ?_
  refine ops_append (k := 0) (n := 0) (s := 1) (m := m) (v := (Value.slice (some ⟨b1, 0, none⟩) 0 0)) (xs := []) (news := (xs.map (Value.int .i64))) Try.underlying37 Try.ti3 rfl (Nat.le_of_ble_eq_true rfl) rfl rfl rfl (by rw [List.length_map]; omega) (fun w hm => hn w hm.view) (by simp [Value.oneCell']) (by omega) (by simp only [maxLen]; omega) (fun v1 hn1 => ?_)
  refine oq (qv_as v1 rfl) ?_
  refine ops_nil ?_
  refine vc_ret ?_
  refine rq1 v1 rfl ?_
  show [_] = [_]; simp

theorem Clone_c {V : HV} {x : Value} {xs : List Int} (hs : Ints .i64 V x xs) (hb : xs.length ≤ 1000000) : FnC Try.prog 81 [x] V [] (fun v V' σ' => σ' = [Gr 3 1 v xs.length (xs.map (Value.int .i64))]) := by
  have hs0 : Sl V x (xs.map (Value.int .i64)) := hs
  rcases hs0.cases with ⟨cap, rfl, e⟩ | ⟨ad, cap, rfl, hn⟩
  · have e : xs = [] := by simpa using e
    subst e
    exact CloneNil_c
  · have := CloneSome_c (V := V) (ad := ad) (c := cap) (xs := xs) rfl hb hn
    rw [List.length_map]; exact this
set_option maxRecDepth 100000 in
set_option maxHeartbeats 4000000 in
theorem Settle_c {V : HV} {a : Nm} {x : Value} {xs : List Int} (hs : Ints .i64 V x xs) (hb : xs.length ≤ 1000) :
    FnC Try.prog 49 [(Value.agg #[(Value.int .i64 (a.l)), (Value.int .i64 (a.h)), (Value.int .i64 (a.s))]), x] V [] (fun v _ _ => v = .tuple #[(Value.agg #[(Value.int .i64 ((stN a xs).l)), (Value.int .i64 ((stN a xs).h)), (Value.int .i64 ((stN a xs).s))]), (Value.int .i64 (stE a xs))]) := by
  refine fn_intro (N := 49) Try.func49 (by kernel_rfl) rfl rfl rfl (Nat.le_of_ble_eq_true rfl) ?_
  intro w0 D
  have hlen := srt_len xs
  refine vc_seq ?_
  refine vc_region ?_
  refine ops_box (v := (Value.agg #[(Value.int .i64 (a.l)), (Value.int .i64 (a.h)), (Value.int .i64 (a.s))])) (cs := [(Value.int .i64 (a.l)), (Value.int .i64 (a.h)), (Value.int .i64 (a.s))]) rfl rfl (fun b1 => ?_)
  refine ops_alloc Try.ti23 rfl (fun b2 => ?_)
  refine oq (qv_as (Value.int .i64 0) rfl) ?_
  refine ops_nil ?_
  refine vc_seq ?_
  refine vc_seq ?_
  refine vc_res (σ' := [(Arr 23 b1 [(Value.int .i64 (a.l)), (Value.int .i64 (a.h)), (Value.int .i64 (a.s))]), (Arr 23 b2 [(Value.int .i64 0), (Value.int .i64 0), (Value.int .i64 0)])]) rfl ?_
  refine vc_region ?_
  refine oq (qv_ldm (vs := [(Value.int .i64 (a.l)), (Value.int .i64 (a.h)), (Value.int .i64 (a.s))]) Try.agg23 rfl (inOc (k := 0) rfl) rfl rfl) ?_
  refine oq (qv_call (v := (Value.bool (decide (vld a)))) (Valid_c (a := a)) rfl rfl) ?_
  refine oq (qv_not rfl) ?_
  refine ops_nil ?_
  refine vc_if rfl (fun c1 => ?_) (fun c1 => ?_)
  ·
    refine vc_seq ?_
    
    refine vc_region ?_
    refine oq (qv_build (out := [(Value.int .i64 0), (Value.int .i64 0), (Value.int .i64 0)]) Try.build23 [] rfl rfl) ?_
    refine ops_stm (k := 1) (off := 0) (v := (Value.agg #[(Value.int .i64 0), (Value.int .i64 0), (Value.int .i64 0)])) (vs := [(Value.int .i64 0), (Value.int .i64 0), (Value.int .i64 0)]) (cs := [(Value.int .i64 0), (Value.int .i64 0), (Value.int .i64 0)]) (cs' := [(Value.int .i64 0), (Value.int .i64 0), (Value.int .i64 0)]) Try.size23 rfl rfl rfl rfl rfl rfl (Nat.le_of_ble_eq_true rfl) rfl ?_
    refine oq (qv_as (Value.int .i64 1) rfl) ?_
    refine ops_nil ?_
    refine vc_ret ?_
    refine rs2 (Value.agg #[(Value.int .i64 0), (Value.int .i64 0), (Value.int .i64 0)]) (Value.int .i64 1) (rv_c (vs := [(Value.int .i64 0), (Value.int .i64 0), (Value.int .i64 0)]) Try.agg23 rfl (inOc (k := 1) rfl) rfl rfl) (rv_t rfl) ?_
    exact tup2 (aggc (consc (congrArg (Value.int .i64) (show 0 = ((stN a xs).l) from by first | (rw [stN_1 (by rw [stE_1 (by assumption)]; omega)]; done) | (rw [stN_1 (by rw [stE_3 hv hno]; omega)]; done))) (consc (congrArg (Value.int .i64) (show 0 = ((stN a xs).h) from by first | (rw [stN_1 (by rw [stE_1 (by assumption)]; omega)]; done) | (rw [stN_1 (by rw [stE_3 hv hno]; omega)]; done))) (consc (congrArg (Value.int .i64) (show 0 = ((stN a xs).s) from by first | (rw [stN_1 (by rw [stE_1 (by assumption)]; omega)]; done) | (rw [stN_1 (by rw [stE_3 hv hno]; omega)]; done))) rfl)))) (congrArg (Value.int .i64) (show 1 = (stE a xs) from by first | (rw [stE_1 (by assumption)]; done) | (rw [stE_3 hv hno]; done) | (rw [hE]; done)))
  ·
    refine vc_skip ?_
    refine vc_seq ?_
    have hv : vld a := Decidable.not_not.1 (by assumption)
    refine vc_region ?_
    refine oq (qv_mv x rfl) ?_
    refine ops_call (σa := []) (σr := [(Arr 23 b1 [(Value.int .i64 (a.l)), (Value.int .i64 (a.h)), (Value.int .i64 (a.s))]), (Arr 23 b2 [(Value.int .i64 0), (Value.int .i64 0), (Value.int .i64 0)])]) (Clone_c hs (by omega)) rfl rfl (.refl _) (fun r1 V1 sg1 hV1 hp1 => ?_)
    obtain rfl := hp1
    have hs := hs.mono hV1
    refine oq (qv_as r1 rfl) ?_
    refine ops_nil ?_
    refine vc_seq ?_
    refine vc_res (σ' := [(Gr 3 1 r1 xs.length ((xs.map (Value.int .i64)))), (Arr 23 b1 [(Value.int .i64 (a.l)), (Value.int .i64 (a.h)), (Value.int .i64 (a.s))]), (Arr 23 b2 [(Value.int .i64 0), (Value.int .i64 0), (Value.int .i64 0)])]) rfl ?_
    refine vc_region ?_
    refine oq (qv_mv r1 rfl) ?_
    refine ops_call (σa := [(Gr 3 1 r1 xs.length ((xs.map (Value.int .i64))))]) (σr := [(Arr 23 b1 [(Value.int .i64 (a.l)), (Value.int .i64 (a.h)), (Value.int .i64 (a.s))]), (Arr 23 b2 [(Value.int .i64 0), (Value.int .i64 0), (Value.int .i64 0)])]) (Sort_c (by omega)) rfl rfl (.refl _) (fun r2 V2 sg2 hV2 hp2 => ?_)
    obtain ⟨rfl, hVV, rfl⟩ := hp2
    have hs := hs.mono hV2
    refine ops_nil ?_
    refine vc_seq ?_
    refine vc_res (σ' := [(Gr 3 1 r1 xs.length (((xs.mergeSort fun x y => decide (x ≤ y)).map (Value.int .i64)))), (Arr 23 b1 [(Value.int .i64 (a.l)), (Value.int .i64 (a.h)), (Value.int .i64 (a.s))]), (Arr 23 b2 [(Value.int .i64 0), (Value.int .i64 0), (Value.int .i64 0)])]) rfl ?_
    refine vc_region ?_
    refine oq (qv_call (v := (Value.agg #[(Value.int .i64 (nE.l)), (Value.int .i64 (nE.h)), (Value.int .i64 (nE.s))])) (none_c) rfl rfl) ?_
    refine ops_alloc Try.ti23 rfl (fun b3 => ?_)
    refine ops_stm (k := 3) (off := 0) (v := (Value.agg #[(Value.int .i64 (nE.l)), (Value.int .i64 (nE.h)), (Value.int .i64 (nE.s))])) (vs := [(Value.int .i64 (nE.l)), (Value.int .i64 (nE.h)), (Value.int .i64 (nE.s))]) (cs := [(Value.int .i64 0), (Value.int .i64 0), (Value.int .i64 0)]) (cs' := [(Value.int .i64 (nE.l)), (Value.int .i64 (nE.h)), (Value.int .i64 (nE.s))]) Try.size23 rfl rfl rfl rfl rfl rfl (Nat.le_of_ble_eq_true rfl) rfl ?_
    refine ops_nil ?_
    refine vc_seq ?_
    refine vc_seq ?_
    refine vc_res (σ' := [(Gr 3 1 r1 xs.length (((xs.mergeSort fun x y => decide (x ≤ y)).map (Value.int .i64)))), (Arr 23 b1 [(Value.int .i64 (a.l)), (Value.int .i64 (a.h)), (Value.int .i64 (a.s))]), (Arr 23 b2 [(Value.int .i64 0), (Value.int .i64 0), (Value.int .i64 0)]), (Arr 23 b3 [(Value.int .i64 (nE.l)), (Value.int .i64 (nE.h)), (Value.int .i64 (nE.s))])]) rfl ?_
    refine vc_freezeG (v := r1) (E := 3) (n := xs.length) (xs := ((xs.mergeSort fun x y => decide (x ≤ y)).map (Value.int .i64))) (σr := [(Arr 23 b1 [(Value.int .i64 (a.l)), (Value.int .i64 (a.h)), (Value.int .i64 (a.s))]), (Arr 23 b2 [(Value.int .i64 0), (Value.int .i64 0), (Value.int .i64 0)]), (Arr 23 b3 [(Value.int .i64 (nE.l)), (Value.int .i64 (nE.h)), (Value.int .i64 (nE.s))])]) (List.perm_middle (l₁ := []) (l₂ := [(Arr 23 b1 [(Value.int .i64 (a.l)), (Value.int .i64 (a.h)), (Value.int .i64 (a.s))]), (Arr 23 b2 [(Value.int .i64 0), (Value.int .i64 0), (Value.int .i64 0)]), (Arr 23 b3 [(Value.int .i64 (nE.l)), (Value.int .i64 (nE.h)), (Value.int .i64 (nE.s))])])) (fun Vf1 hVf1 hc1 => ?_)
    have hs := hs.mono hVf1
    refine vc_region ?_
    have hss : Ints .i64 Vf1 r1 (srt xs) := hc1
    refine oq (qv_mv r1 rfl) ?_
    refine oq (qv_lenI Try.underlying37 rfl hss) ?_
    refine oq (qv_mv (Value.int .i64 0) rfl) ?_
    refine ops_nil ?_
    refine vc_block ?_
    refine vc_loop (α := Int) (fun (xx : Int) => [(0, (Value.agg #[(Value.int .i64 (a.l)), (Value.int .i64 (a.h)), (Value.int .i64 (a.s))])), (1, x), (2, (Value.pointer (some ⟨b1, 0, none⟩))), (4, (Value.pointer (some ⟨b2, 0, none⟩))), (6, r1), (7, (Value.pointer (some ⟨b3, 0, none⟩))), (14, (Value.bool (decide (¬ (vld a))))), (21, r1), (22, (Value.int .i64 ((((srt xs)).length : Int)))), (23, (Value.int .i64 xx))]) (fun (xx : Int) V' σ' => Vf1 = V' ∧ [(Arr 23 b1 [(Value.int .i64 (((stFold a ((srt xs).take xx.toNat)).2).l)), (Value.int .i64 (((stFold a ((srt xs).take xx.toNat)).2).h)), (Value.int .i64 (((stFold a ((srt xs).take xx.toNat)).2).s))]), (Arr 23 b2 [(Value.int .i64 0), (Value.int .i64 0), (Value.int .i64 0)]), (Arr 23 b3 [(Value.int .i64 (((stFold a ((srt xs).take xx.toNat)).1).l)), (Value.int .i64 (((stFold a ((srt xs).take xx.toNat)).1).h)), (Value.int .i64 (((stFold a ((srt xs).take xx.toNat)).1).s))])] = σ' ∧ 0 ≤ xx ∧ xx ≤ (srt xs).length ∧ ∀ i : Int, 0 ≤ i → i < xx → fits (gi (srt xs) i)) (fun (xx : Int) => ((srt xs).length - xx).toNat) (0) ?_ ?_ ?_
    · exact ⟨rfl, rfl, rfl, rfl, rfl, rfl, rfl, rfl, rfl, rfl, trivial⟩
    · exact ⟨rfl, (show [(Arr 23 b1 [(Value.int .i64 (((stFold a ((srt xs).take (0 : Int).toNat)).2).l)), (Value.int .i64 (((stFold a ((srt xs).take (0 : Int).toNat)).2).h)), (Value.int .i64 (((stFold a ((srt xs).take (0 : Int).toNat)).2).s))]), (Arr 23 b2 [(Value.int .i64 0), (Value.int .i64 0), (Value.int .i64 0)]), (Arr 23 b3 [(Value.int .i64 (((stFold a ((srt xs).take (0 : Int).toNat)).1).l)), (Value.int .i64 (((stFold a ((srt xs).take (0 : Int).toNat)).1).h)), (Value.int .i64 (((stFold a ((srt xs).take (0 : Int).toNat)).1).s))])] = [(Arr 23 b1 [(Value.int .i64 (a.l)), (Value.int .i64 (a.h)), (Value.int .i64 (a.s))]), (Arr 23 b2 [(Value.int .i64 0), (Value.int .i64 0), (Value.int .i64 0)]), (Arr 23 b3 [(Value.int .i64 (nE.l)), (Value.int .i64 (nE.h)), (Value.int .i64 (nE.s))])] from by rfl), by omega, by omega, fun i a b => by omega⟩
    rintro p e1 V0l σ0l hI0
    obtain ⟨rfl, rfl, i1, i2, hf⟩ : Vf1 = V0l ∧ [(Arr 23 b1 [(Value.int .i64 (((stFold a ((srt xs).take p.toNat)).2).l)), (Value.int .i64 (((stFold a ((srt xs).take p.toNat)).2).h)), (Value.int .i64 (((stFold a ((srt xs).take p.toNat)).2).s))]), (Arr 23 b2 [(Value.int .i64 0), (Value.int .i64 0), (Value.int .i64 0)]), (Arr 23 b3 [(Value.int .i64 (((stFold a ((srt xs).take p.toNat)).1).l)), (Value.int .i64 (((stFold a ((srt xs).take p.toNat)).1).h)), (Value.int .i64 (((stFold a ((srt xs).take p.toNat)).1).s))])] = σ0l ∧ 0 ≤ p ∧ p ≤ (srt xs).length ∧ ∀ i : Int, 0 ≤ i → i < p → fits (gi (srt xs) i) := hI0
    refine vc_seq ?_
    refine vc_res (σ' := [(Arr 23 b1 [(Value.int .i64 (((stFold a ((srt xs).take p.toNat)).2).l)), (Value.int .i64 (((stFold a ((srt xs).take p.toNat)).2).h)), (Value.int .i64 (((stFold a ((srt xs).take p.toNat)).2).s))]), (Arr 23 b2 [(Value.int .i64 0), (Value.int .i64 0), (Value.int .i64 0)]), (Arr 23 b3 [(Value.int .i64 (((stFold a ((srt xs).take p.toNat)).1).l)), (Value.int .i64 (((stFold a ((srt xs).take p.toNat)).1).h)), (Value.int .i64 (((stFold a ((srt xs).take p.toNat)).1).s))])]) rfl ?_
    refine vc_region ?_
    refine oq (qv_lss rfl rfl) ?_
    refine ops_nil ?_
    refine vc_seq ?_
    refine vc_if rfl (fun c2 => ?_) (fun c2 => ?_)
    ·
      refine vc_skip ?_
      refine vc_seq ?_
      refine vc_block ?_
      refine vc_seq ?_
      refine vc_region ?_
      refine oq (qv_iai (v := r1) (i := p) Try.underlying37 Try.size3 rfl (inVi hss) rfl (by omega) (by omega)) ?_
      refine oq (qv_ldi (v := r1) (i := p) Try.plain3 rfl (inVi hss) (by omega) (by omega)) ?_
      refine oq (qv_as (Value.int .i64 (gi ((srt xs)) (p))) rfl) ?_
      refine ops_nil ?_
      refine vc_seq ?_
      refine vc_seq ?_
      refine vc_region ?_
      refine oq (qv_mv (Value.int .i64 (gi ((srt xs)) (p))) rfl) ?_
      refine oq (qv_call (v := (Value.bool (decide (fits (gi ((srt xs)) (p)))))) (inRange_c) rfl rfl) ?_
      refine oq (qv_not rfl) ?_
      refine ops_nil ?_
      refine vc_if rfl (fun c3 => ?_) (fun c3 => ?_)
      ·
        refine vc_seq ?_
        have hno : ¬ fitAll xs = true := fun e => absurd (fitAll_iff.1 (srt_fit.2 e) p (by omega) (by omega)) (by assumption)
        refine vc_region ?_
        refine oq (qv_build (out := [(Value.int .i64 0), (Value.int .i64 0), (Value.int .i64 0)]) Try.build23 [] rfl rfl) ?_
        refine ops_stm (k := 1) (off := 0) (v := (Value.agg #[(Value.int .i64 0), (Value.int .i64 0), (Value.int .i64 0)])) (vs := [(Value.int .i64 0), (Value.int .i64 0), (Value.int .i64 0)]) (cs := [(Value.int .i64 0), (Value.int .i64 0), (Value.int .i64 0)]) (cs' := [(Value.int .i64 0), (Value.int .i64 0), (Value.int .i64 0)]) Try.size23 rfl rfl rfl rfl rfl rfl (Nat.le_of_ble_eq_true rfl) rfl ?_
        refine oq (qv_as (Value.int .i64 3) rfl) ?_
        refine ops_nil ?_
        refine vc_ret ?_
        refine blockQ_ret ?_
        refine blockQ_ret ?_
        refine rs2 (Value.agg #[(Value.int .i64 0), (Value.int .i64 0), (Value.int .i64 0)]) (Value.int .i64 3) (rv_c (vs := [(Value.int .i64 0), (Value.int .i64 0), (Value.int .i64 0)]) Try.agg23 rfl (inOc (k := 1) rfl) rfl rfl) (rv_t rfl) ?_
        exact tup2 (aggc (consc (congrArg (Value.int .i64) (show 0 = ((stN a xs).l) from by first | (rw [stN_1 (by rw [stE_1 (by assumption)]; omega)]; done) | (rw [stN_1 (by rw [stE_3 hv hno]; omega)]; done))) (consc (congrArg (Value.int .i64) (show 0 = ((stN a xs).h) from by first | (rw [stN_1 (by rw [stE_1 (by assumption)]; omega)]; done) | (rw [stN_1 (by rw [stE_3 hv hno]; omega)]; done))) (consc (congrArg (Value.int .i64) (show 0 = ((stN a xs).s) from by first | (rw [stN_1 (by rw [stE_1 (by assumption)]; omega)]; done) | (rw [stN_1 (by rw [stE_3 hv hno]; omega)]; done))) rfl)))) (congrArg (Value.int .i64) (show 3 = (stE a xs) from by first | (rw [stE_1 (by assumption)]; done) | (rw [stE_3 hv hno]; done) | (rw [hE]; done)))
      ·
        refine vc_skip ?_
        refine vc_seq ?_
        have hfp : fits (gi (srt xs) p) := Decidable.not_not.1 (by assumption)
        have hS := stl_take hv (bs := xs) (p := p) (by omega) (by omega) hf
        have hsr := hS.vr
        have hso := hS.out.ok
        refine vc_region ?_
        refine oq (qv_ldm (vs := [(Value.int .i64 (((stFold a ((srt xs).take p.toNat)).2).l)), (Value.int .i64 (((stFold a ((srt xs).take p.toNat)).2).h)), (Value.int .i64 (((stFold a ((srt xs).take p.toNat)).2).s))]) Try.agg23 rfl (inOc (k := 0) rfl) rfl rfl) ?_
        refine oq (qv_mv (Value.int .i64 (gi ((srt xs)) (p))) rfl) ?_
        refine oq (qv_call (v := (Value.tuple #[(Value.agg #[(Value.int .i64 ((upF ((stFold a ((srt xs).take p.toNat)).2) (gi ((srt xs)) (p))).l)), (Value.int .i64 ((upF ((stFold a ((srt xs).take p.toNat)).2) (gi ((srt xs)) (p))).h)), (Value.int .i64 ((upF ((stFold a ((srt xs).take p.toNat)).2) (gi ((srt xs)) (p))).s))]), (Value.agg #[(Value.int .i64 ((abF ((stFold a ((srt xs).take p.toNat)).2) (gi ((srt xs)) (p))).l)), (Value.int .i64 ((abF ((stFold a ((srt xs).take p.toNat)).2) (gi ((srt xs)) (p))).h)), (Value.int .i64 ((abF ((stFold a ((srt xs).take p.toNat)).2) (gi ((srt xs)) (p))).s))])])) (split_c (a := (stFold a ((srt xs).take p.toNat)).2) (by exact hsr)) rfl rfl) ?_
        refine oq (qv_mv (Value.tuple #[(Value.agg #[(Value.int .i64 ((upF ((stFold a ((srt xs).take p.toNat)).2) (gi ((srt xs)) (p))).l)), (Value.int .i64 ((upF ((stFold a ((srt xs).take p.toNat)).2) (gi ((srt xs)) (p))).h)), (Value.int .i64 ((upF ((stFold a ((srt xs).take p.toNat)).2) (gi ((srt xs)) (p))).s))]), (Value.agg #[(Value.int .i64 ((abF ((stFold a ((srt xs).take p.toNat)).2) (gi ((srt xs)) (p))).l)), (Value.int .i64 ((abF ((stFold a ((srt xs).take p.toNat)).2) (gi ((srt xs)) (p))).h)), (Value.int .i64 ((abF ((stFold a ((srt xs).take p.toNat)).2) (gi ((srt xs)) (p))).s))])]) rfl) ?_
        refine oq (qv_ext (Value.agg #[(Value.int .i64 ((upF ((stFold a ((srt xs).take p.toNat)).2) (gi ((srt xs)) (p))).l)), (Value.int .i64 ((upF ((stFold a ((srt xs).take p.toNat)).2) (gi ((srt xs)) (p))).h)), (Value.int .i64 ((upF ((stFold a ((srt xs).take p.toNat)).2) (gi ((srt xs)) (p))).s))]) rfl rfl) ?_
        refine oq (qv_ext (Value.agg #[(Value.int .i64 ((abF ((stFold a ((srt xs).take p.toNat)).2) (gi ((srt xs)) (p))).l)), (Value.int .i64 ((abF ((stFold a ((srt xs).take p.toNat)).2) (gi ((srt xs)) (p))).h)), (Value.int .i64 ((abF ((stFold a ((srt xs).take p.toNat)).2) (gi ((srt xs)) (p))).s))]) rfl rfl) ?_
        refine ops_alloc Try.ti23 rfl (fun b4 => ?_)
        refine ops_alloc Try.ti23 rfl (fun b5 => ?_)
        refine ops_stm (k := 3) (off := 0) (v := (Value.agg #[(Value.int .i64 ((upF ((stFold a ((srt xs).take p.toNat)).2) (gi ((srt xs)) (p))).l)), (Value.int .i64 ((upF ((stFold a ((srt xs).take p.toNat)).2) (gi ((srt xs)) (p))).h)), (Value.int .i64 ((upF ((stFold a ((srt xs).take p.toNat)).2) (gi ((srt xs)) (p))).s))])) (vs := [(Value.int .i64 ((upF ((stFold a ((srt xs).take p.toNat)).2) (gi ((srt xs)) (p))).l)), (Value.int .i64 ((upF ((stFold a ((srt xs).take p.toNat)).2) (gi ((srt xs)) (p))).h)), (Value.int .i64 ((upF ((stFold a ((srt xs).take p.toNat)).2) (gi ((srt xs)) (p))).s))]) (cs := [(Value.int .i64 0), (Value.int .i64 0), (Value.int .i64 0)]) (cs' := [(Value.int .i64 ((upF ((stFold a ((srt xs).take p.toNat)).2) (gi ((srt xs)) (p))).l)), (Value.int .i64 ((upF ((stFold a ((srt xs).take p.toNat)).2) (gi ((srt xs)) (p))).h)), (Value.int .i64 ((upF ((stFold a ((srt xs).take p.toNat)).2) (gi ((srt xs)) (p))).s))]) Try.size23 rfl rfl rfl rfl rfl rfl (Nat.le_of_ble_eq_true rfl) rfl ?_
        refine ops_stm (k := 4) (off := 0) (v := (Value.agg #[(Value.int .i64 ((abF ((stFold a ((srt xs).take p.toNat)).2) (gi ((srt xs)) (p))).l)), (Value.int .i64 ((abF ((stFold a ((srt xs).take p.toNat)).2) (gi ((srt xs)) (p))).h)), (Value.int .i64 ((abF ((stFold a ((srt xs).take p.toNat)).2) (gi ((srt xs)) (p))).s))])) (vs := [(Value.int .i64 ((abF ((stFold a ((srt xs).take p.toNat)).2) (gi ((srt xs)) (p))).l)), (Value.int .i64 ((abF ((stFold a ((srt xs).take p.toNat)).2) (gi ((srt xs)) (p))).h)), (Value.int .i64 ((abF ((stFold a ((srt xs).take p.toNat)).2) (gi ((srt xs)) (p))).s))]) (cs := [(Value.int .i64 0), (Value.int .i64 0), (Value.int .i64 0)]) (cs' := [(Value.int .i64 ((abF ((stFold a ((srt xs).take p.toNat)).2) (gi ((srt xs)) (p))).l)), (Value.int .i64 ((abF ((stFold a ((srt xs).take p.toNat)).2) (gi ((srt xs)) (p))).h)), (Value.int .i64 ((abF ((stFold a ((srt xs).take p.toNat)).2) (gi ((srt xs)) (p))).s))]) Try.size23 rfl rfl rfl rfl rfl rfl (Nat.le_of_ble_eq_true rfl) rfl ?_
        refine ops_nil ?_
        refine vc_seq ?_
        refine vc_seq ?_
        refine vc_res (σ' := [(Arr 23 b1 [(Value.int .i64 (((stFold a ((srt xs).take p.toNat)).2).l)), (Value.int .i64 (((stFold a ((srt xs).take p.toNat)).2).h)), (Value.int .i64 (((stFold a ((srt xs).take p.toNat)).2).s))]), (Arr 23 b2 [(Value.int .i64 0), (Value.int .i64 0), (Value.int .i64 0)]), (Arr 23 b3 [(Value.int .i64 (((stFold a ((srt xs).take p.toNat)).1).l)), (Value.int .i64 (((stFold a ((srt xs).take p.toNat)).1).h)), (Value.int .i64 (((stFold a ((srt xs).take p.toNat)).1).s))]), (Arr 23 b4 [(Value.int .i64 ((upF ((stFold a ((srt xs).take p.toNat)).2) (gi ((srt xs)) (p))).l)), (Value.int .i64 ((upF ((stFold a ((srt xs).take p.toNat)).2) (gi ((srt xs)) (p))).h)), (Value.int .i64 ((upF ((stFold a ((srt xs).take p.toNat)).2) (gi ((srt xs)) (p))).s))]), (Arr 23 b5 [(Value.int .i64 ((abF ((stFold a ((srt xs).take p.toNat)).2) (gi ((srt xs)) (p))).l)), (Value.int .i64 ((abF ((stFold a ((srt xs).take p.toNat)).2) (gi ((srt xs)) (p))).h)), (Value.int .i64 ((abF ((stFold a ((srt xs).take p.toNat)).2) (gi ((srt xs)) (p))).s))])]) rfl ?_
        refine vc_region ?_
        refine oq (qv_ldm (vs := [(Value.int .i64 ((upF ((stFold a ((srt xs).take p.toNat)).2) (gi ((srt xs)) (p))).l)), (Value.int .i64 ((upF ((stFold a ((srt xs).take p.toNat)).2) (gi ((srt xs)) (p))).h)), (Value.int .i64 ((upF ((stFold a ((srt xs).take p.toNat)).2) (gi ((srt xs)) (p))).s))]) Try.agg23 rfl (inOc (k := 3) rfl) rfl rfl) ?_
        refine oq (qv_call (v := (Value.bool (decide (upF ((stFold a ((srt xs).take p.toNat)).2) (gi ((srt xs)) (p)) = nE)))) (isEmpty_c (a := upF ((stFold a ((srt xs).take p.toNat)).2) (gi ((srt xs)) (p)))) rfl rfl) ?_
        refine oq (qv_not rfl) ?_
        refine ops_nil ?_
        refine vc_if rfl (fun c4 => ?_) (fun c4 => ?_)
        ·
          refine vc_region_order (τ := []) [(0, false), (1, false), (2, false), (3, false), (4, true)] [(Arr 23 b1 [(Value.int .i64 (((stFold a ((srt xs).take p.toNat)).2).l)), (Value.int .i64 (((stFold a ((srt xs).take p.toNat)).2).h)), (Value.int .i64 (((stFold a ((srt xs).take p.toNat)).2).s))]), (Arr 23 b2 [(Value.int .i64 0), (Value.int .i64 0), (Value.int .i64 0)]), (Arr 23 b3 [(Value.int .i64 (((stFold a ((srt xs).take p.toNat)).1).l)), (Value.int .i64 (((stFold a ((srt xs).take p.toNat)).1).h)), (Value.int .i64 (((stFold a ((srt xs).take p.toNat)).1).s))]), (Arr 23 b4 [(Value.int .i64 ((upF ((stFold a ((srt xs).take p.toNat)).2) (gi ((srt xs)) (p))).l)), (Value.int .i64 ((upF ((stFold a ((srt xs).take p.toNat)).2) (gi ((srt xs)) (p))).h)), (Value.int .i64 ((upF ((stFold a ((srt xs).take p.toNat)).2) (gi ((srt xs)) (p))).s))]), (Arr 23 b5 [(Value.int .i64 ((abF ((stFold a ((srt xs).take p.toNat)).2) (gi ((srt xs)) (p))).l)), (Value.int .i64 ((abF ((stFold a ((srt xs).take p.toNat)).2) (gi ((srt xs)) (p))).h)), (Value.int .i64 ((abF ((stFold a ((srt xs).take p.toNat)).2) (gi ((srt xs)) (p))).s))])] Try.mixed (perm_nil _) (by kernel_rfl) ?_
          refine rq rfl (qv_ldm (vs := [(Value.int .i64 (((stFold a ((srt xs).take p.toNat)).1).l)), (Value.int .i64 (((stFold a ((srt xs).take p.toNat)).1).h)), (Value.int .i64 (((stFold a ((srt xs).take p.toNat)).1).s))]) Try.agg23 rfl (inOc (k := 2) rfl) rfl rfl) ?_
          refine rq rfl (qv_mv (Value.int .i64 (gi ((srt xs)) (p))) rfl) ?_
          refine rq rfl (qv_call (v := (Value.agg #[(Value.int .i64 ((sgl (gi ((srt xs)) (p))).l)), (Value.int .i64 ((sgl (gi ((srt xs)) (p))).h)), (Value.int .i64 ((sgl (gi ((srt xs)) (p))).s))])) (single_c) rfl rfl) ?_
          refine rq rfl (qv_call (v := (Value.agg #[(Value.int .i64 ((joinF (stFold a ((srt xs).take p.toNat)).1 (sgl (gi (srt xs) p))).l)), (Value.int .i64 ((joinF (stFold a ((srt xs).take p.toNat)).1 (sgl (gi (srt xs) p))).h)), (Value.int .i64 ((joinF (stFold a ((srt xs).take p.toNat)).1 (sgl (gi (srt xs) p))).s))])) (join_c (a := (stFold a ((srt xs).take p.toNat)).1) (b := sgl (gi (srt xs) p)) hso (vld_sgl hfp)) rfl rfl) ?_
          refine rl1 (by kernel_rfl) rfl ?_
          refine ops_stm (k := 2) (off := 0) (v := (Value.agg #[(Value.int .i64 ((joinF (stFold a ((srt xs).take p.toNat)).1 (sgl (gi (srt xs) p))).l)), (Value.int .i64 ((joinF (stFold a ((srt xs).take p.toNat)).1 (sgl (gi (srt xs) p))).h)), (Value.int .i64 ((joinF (stFold a ((srt xs).take p.toNat)).1 (sgl (gi (srt xs) p))).s))])) (vs := [(Value.int .i64 ((joinF (stFold a ((srt xs).take p.toNat)).1 (sgl (gi (srt xs) p))).l)), (Value.int .i64 ((joinF (stFold a ((srt xs).take p.toNat)).1 (sgl (gi (srt xs) p))).h)), (Value.int .i64 ((joinF (stFold a ((srt xs).take p.toNat)).1 (sgl (gi (srt xs) p))).s))]) (cs := [(Value.int .i64 (((stFold a ((srt xs).take p.toNat)).1).l)), (Value.int .i64 (((stFold a ((srt xs).take p.toNat)).1).h)), (Value.int .i64 (((stFold a ((srt xs).take p.toNat)).1).s))]) (cs' := [(Value.int .i64 ((joinF (stFold a ((srt xs).take p.toNat)).1 (sgl (gi (srt xs) p))).l)), (Value.int .i64 ((joinF (stFold a ((srt xs).take p.toNat)).1 (sgl (gi (srt xs) p))).h)), (Value.int .i64 ((joinF (stFold a ((srt xs).take p.toNat)).1 (sgl (gi (srt xs) p))).s))]) Try.size23 rfl rfl rfl rfl rfl rfl (Nat.le_of_ble_eq_true rfl) rfl ?_
          refine ops_nil ⟨[(Arr 23 b1 [(Value.int .i64 (((stFold a ((srt xs).take p.toNat)).2).l)), (Value.int .i64 (((stFold a ((srt xs).take p.toNat)).2).h)), (Value.int .i64 (((stFold a ((srt xs).take p.toNat)).2).s))]), (Arr 23 b2 [(Value.int .i64 0), (Value.int .i64 0), (Value.int .i64 0)]), (Arr 23 b3 [(Value.int .i64 ((joinF (stFold a ((srt xs).take p.toNat)).1 (sgl (gi (srt xs) p))).l)), (Value.int .i64 ((joinF (stFold a ((srt xs).take p.toNat)).1 (sgl (gi (srt xs) p))).h)), (Value.int .i64 ((joinF (stFold a ((srt xs).take p.toNat)).1 (sgl (gi (srt xs) p))).s))]), (Arr 23 b4 [(Value.int .i64 ((upF ((stFold a ((srt xs).take p.toNat)).2) (gi ((srt xs)) (p))).l)), (Value.int .i64 ((upF ((stFold a ((srt xs).take p.toNat)).2) (gi ((srt xs)) (p))).h)), (Value.int .i64 ((upF ((stFold a ((srt xs).take p.toNat)).2) (gi ((srt xs)) (p))).s))]), (Arr 23 b5 [(Value.int .i64 ((abF ((stFold a ((srt xs).take p.toNat)).2) (gi ((srt xs)) (p))).l)), (Value.int .i64 ((abF ((stFold a ((srt xs).take p.toNat)).2) (gi ((srt xs)) (p))).h)), (Value.int .i64 ((abF ((stFold a ((srt xs).take p.toNat)).2) (gi ((srt xs)) (p))).s))])], [], perm_nil _, ?_⟩
          refine rnil ?_
          refine vc_res (σ' := [(Arr 23 b1 [(Value.int .i64 (((stFold a ((srt xs).take p.toNat)).2).l)), (Value.int .i64 (((stFold a ((srt xs).take p.toNat)).2).h)), (Value.int .i64 (((stFold a ((srt xs).take p.toNat)).2).s))]), (Arr 23 b2 [(Value.int .i64 0), (Value.int .i64 0), (Value.int .i64 0)]), (Arr 23 b3 [(Value.int .i64 ((joinF (stFold a ((srt xs).take p.toNat)).1 (sgl (gi (srt xs) p))).l)), (Value.int .i64 ((joinF (stFold a ((srt xs).take p.toNat)).1 (sgl (gi (srt xs) p))).h)), (Value.int .i64 ((joinF (stFold a ((srt xs).take p.toNat)).1 (sgl (gi (srt xs) p))).s))]), (Arr 23 b4 [(Value.int .i64 ((upF ((stFold a ((srt xs).take p.toNat)).2) (gi ((srt xs)) (p))).l)), (Value.int .i64 ((upF ((stFold a ((srt xs).take p.toNat)).2) (gi ((srt xs)) (p))).h)), (Value.int .i64 ((upF ((stFold a ((srt xs).take p.toNat)).2) (gi ((srt xs)) (p))).s))]), (Arr 23 b5 [(Value.int .i64 ((abF ((stFold a ((srt xs).take p.toNat)).2) (gi ((srt xs)) (p))).l)), (Value.int .i64 ((abF ((stFold a ((srt xs).take p.toNat)).2) (gi ((srt xs)) (p))).h)), (Value.int .i64 ((abF ((stFold a ((srt xs).take p.toNat)).2) (gi ((srt xs)) (p))).s))])]) rfl ?_
          refine vc_region ?_
          refine oq (qv_ldm (vs := [(Value.int .i64 ((abF ((stFold a ((srt xs).take p.toNat)).2) (gi ((srt xs)) (p))).l)), (Value.int .i64 ((abF ((stFold a ((srt xs).take p.toNat)).2) (gi ((srt xs)) (p))).h)), (Value.int .i64 ((abF ((stFold a ((srt xs).take p.toNat)).2) (gi ((srt xs)) (p))).s))]) Try.agg23 rfl (inOc (k := 4) rfl) rfl rfl) ?_
          refine ops_stm (k := 0) (off := 0) (v := (Value.agg #[(Value.int .i64 ((abF ((stFold a ((srt xs).take p.toNat)).2) (gi ((srt xs)) (p))).l)), (Value.int .i64 ((abF ((stFold a ((srt xs).take p.toNat)).2) (gi ((srt xs)) (p))).h)), (Value.int .i64 ((abF ((stFold a ((srt xs).take p.toNat)).2) (gi ((srt xs)) (p))).s))])) (vs := [(Value.int .i64 ((abF ((stFold a ((srt xs).take p.toNat)).2) (gi ((srt xs)) (p))).l)), (Value.int .i64 ((abF ((stFold a ((srt xs).take p.toNat)).2) (gi ((srt xs)) (p))).h)), (Value.int .i64 ((abF ((stFold a ((srt xs).take p.toNat)).2) (gi ((srt xs)) (p))).s))]) (cs := [(Value.int .i64 (((stFold a ((srt xs).take p.toNat)).2).l)), (Value.int .i64 (((stFold a ((srt xs).take p.toNat)).2).h)), (Value.int .i64 (((stFold a ((srt xs).take p.toNat)).2).s))]) (cs' := [(Value.int .i64 ((abF ((stFold a ((srt xs).take p.toNat)).2) (gi ((srt xs)) (p))).l)), (Value.int .i64 ((abF ((stFold a ((srt xs).take p.toNat)).2) (gi ((srt xs)) (p))).h)), (Value.int .i64 ((abF ((stFold a ((srt xs).take p.toNat)).2) (gi ((srt xs)) (p))).s))]) Try.size23 rfl rfl rfl rfl rfl rfl (Nat.le_of_ble_eq_true rfl) rfl ?_
          refine ops_nil ?_
          refine vc_res (σ' := [(Arr 23 b1 [(Value.int .i64 ((abF ((stFold a ((srt xs).take p.toNat)).2) (gi ((srt xs)) (p))).l)), (Value.int .i64 ((abF ((stFold a ((srt xs).take p.toNat)).2) (gi ((srt xs)) (p))).h)), (Value.int .i64 ((abF ((stFold a ((srt xs).take p.toNat)).2) (gi ((srt xs)) (p))).s))]), (Arr 23 b2 [(Value.int .i64 0), (Value.int .i64 0), (Value.int .i64 0)]), (Arr 23 b3 [(Value.int .i64 ((joinF (stFold a ((srt xs).take p.toNat)).1 (sgl (gi (srt xs) p))).l)), (Value.int .i64 ((joinF (stFold a ((srt xs).take p.toNat)).1 (sgl (gi (srt xs) p))).h)), (Value.int .i64 ((joinF (stFold a ((srt xs).take p.toNat)).1 (sgl (gi (srt xs) p))).s))]), (Arr 23 b4 [(Value.int .i64 ((upF ((stFold a ((srt xs).take p.toNat)).2) (gi ((srt xs)) (p))).l)), (Value.int .i64 ((upF ((stFold a ((srt xs).take p.toNat)).2) (gi ((srt xs)) (p))).h)), (Value.int .i64 ((upF ((stFold a ((srt xs).take p.toNat)).2) (gi ((srt xs)) (p))).s))]), (Arr 23 b5 [(Value.int .i64 ((abF ((stFold a ((srt xs).take p.toNat)).2) (gi ((srt xs)) (p))).l)), (Value.int .i64 ((abF ((stFold a ((srt xs).take p.toNat)).2) (gi ((srt xs)) (p))).h)), (Value.int .i64 ((abF ((stFold a ((srt xs).take p.toNat)).2) (gi ((srt xs)) (p))).s))])]) rfl ?_
          refine vc_drop [(Arr 23 b1 [(Value.int .i64 ((abF ((stFold a ((srt xs).take p.toNat)).2) (gi ((srt xs)) (p))).l)), (Value.int .i64 ((abF ((stFold a ((srt xs).take p.toNat)).2) (gi ((srt xs)) (p))).h)), (Value.int .i64 ((abF ((stFold a ((srt xs).take p.toNat)).2) (gi ((srt xs)) (p))).s))]), (Arr 23 b2 [(Value.int .i64 0), (Value.int .i64 0), (Value.int .i64 0)]), (Arr 23 b3 [(Value.int .i64 ((joinF (stFold a ((srt xs).take p.toNat)).1 (sgl (gi (srt xs) p))).l)), (Value.int .i64 ((joinF (stFold a ((srt xs).take p.toNat)).1 (sgl (gi (srt xs) p))).h)), (Value.int .i64 ((joinF (stFold a ((srt xs).take p.toNat)).1 (sgl (gi (srt xs) p))).s))]), (Arr 23 b4 [(Value.int .i64 ((upF ((stFold a ((srt xs).take p.toNat)).2) (gi ((srt xs)) (p))).l)), (Value.int .i64 ((upF ((stFold a ((srt xs).take p.toNat)).2) (gi ((srt xs)) (p))).h)), (Value.int .i64 ((upF ((stFold a ((srt xs).take p.toNat)).2) (gi ((srt xs)) (p))).s))])] [(Arr 23 b5 [(Value.int .i64 ((abF ((stFold a ((srt xs).take p.toNat)).2) (gi ((srt xs)) (p))).l)), (Value.int .i64 ((abF ((stFold a ((srt xs).take p.toNat)).2) (gi ((srt xs)) (p))).h)), (Value.int .i64 ((abF ((stFold a ((srt xs).take p.toNat)).2) (gi ((srt xs)) (p))).s))])] ((List.perm_middle (l₁ := [(Arr 23 b1 [(Value.int .i64 ((abF ((stFold a ((srt xs).take p.toNat)).2) (gi ((srt xs)) (p))).l)), (Value.int .i64 ((abF ((stFold a ((srt xs).take p.toNat)).2) (gi ((srt xs)) (p))).h)), (Value.int .i64 ((abF ((stFold a ((srt xs).take p.toNat)).2) (gi ((srt xs)) (p))).s))]), (Arr 23 b2 [(Value.int .i64 0), (Value.int .i64 0), (Value.int .i64 0)]), (Arr 23 b3 [(Value.int .i64 ((joinF (stFold a ((srt xs).take p.toNat)).1 (sgl (gi (srt xs) p))).l)), (Value.int .i64 ((joinF (stFold a ((srt xs).take p.toNat)).1 (sgl (gi (srt xs) p))).h)), (Value.int .i64 ((joinF (stFold a ((srt xs).take p.toNat)).1 (sgl (gi (srt xs) p))).s))]), (Arr 23 b4 [(Value.int .i64 ((upF ((stFold a ((srt xs).take p.toNat)).2) (gi ((srt xs)) (p))).l)), (Value.int .i64 ((upF ((stFold a ((srt xs).take p.toNat)).2) (gi ((srt xs)) (p))).h)), (Value.int .i64 ((upF ((stFold a ((srt xs).take p.toNat)).2) (gi ((srt xs)) (p))).s))])]) (l₂ := [])).trans (List.perm_append_comm (l₁ := [(Arr 23 b5 [(Value.int .i64 ((abF ((stFold a ((srt xs).take p.toNat)).2) (gi ((srt xs)) (p))).l)), (Value.int .i64 ((abF ((stFold a ((srt xs).take p.toNat)).2) (gi ((srt xs)) (p))).h)), (Value.int .i64 ((abF ((stFold a ((srt xs).take p.toNat)).2) (gi ((srt xs)) (p))).s))])]))) ?_
          refine vc_drop [(Arr 23 b1 [(Value.int .i64 ((abF ((stFold a ((srt xs).take p.toNat)).2) (gi ((srt xs)) (p))).l)), (Value.int .i64 ((abF ((stFold a ((srt xs).take p.toNat)).2) (gi ((srt xs)) (p))).h)), (Value.int .i64 ((abF ((stFold a ((srt xs).take p.toNat)).2) (gi ((srt xs)) (p))).s))]), (Arr 23 b2 [(Value.int .i64 0), (Value.int .i64 0), (Value.int .i64 0)]), (Arr 23 b3 [(Value.int .i64 ((joinF (stFold a ((srt xs).take p.toNat)).1 (sgl (gi (srt xs) p))).l)), (Value.int .i64 ((joinF (stFold a ((srt xs).take p.toNat)).1 (sgl (gi (srt xs) p))).h)), (Value.int .i64 ((joinF (stFold a ((srt xs).take p.toNat)).1 (sgl (gi (srt xs) p))).s))])] [(Arr 23 b4 [(Value.int .i64 ((upF ((stFold a ((srt xs).take p.toNat)).2) (gi ((srt xs)) (p))).l)), (Value.int .i64 ((upF ((stFold a ((srt xs).take p.toNat)).2) (gi ((srt xs)) (p))).h)), (Value.int .i64 ((upF ((stFold a ((srt xs).take p.toNat)).2) (gi ((srt xs)) (p))).s))])] ((List.perm_middle (l₁ := [(Arr 23 b1 [(Value.int .i64 ((abF ((stFold a ((srt xs).take p.toNat)).2) (gi ((srt xs)) (p))).l)), (Value.int .i64 ((abF ((stFold a ((srt xs).take p.toNat)).2) (gi ((srt xs)) (p))).h)), (Value.int .i64 ((abF ((stFold a ((srt xs).take p.toNat)).2) (gi ((srt xs)) (p))).s))]), (Arr 23 b2 [(Value.int .i64 0), (Value.int .i64 0), (Value.int .i64 0)]), (Arr 23 b3 [(Value.int .i64 ((joinF (stFold a ((srt xs).take p.toNat)).1 (sgl (gi (srt xs) p))).l)), (Value.int .i64 ((joinF (stFold a ((srt xs).take p.toNat)).1 (sgl (gi (srt xs) p))).h)), (Value.int .i64 ((joinF (stFold a ((srt xs).take p.toNat)).1 (sgl (gi (srt xs) p))).s))])]) (l₂ := [])).trans (List.perm_append_comm (l₁ := [(Arr 23 b4 [(Value.int .i64 ((upF ((stFold a ((srt xs).take p.toNat)).2) (gi ((srt xs)) (p))).l)), (Value.int .i64 ((upF ((stFold a ((srt xs).take p.toNat)).2) (gi ((srt xs)) (p))).h)), (Value.int .i64 ((upF ((stFold a ((srt xs).take p.toNat)).2) (gi ((srt xs)) (p))).s))])]))) ?_
          refine vc_region ?_
          refine oq (qv_add rfl rfl (by omega)) ?_
          refine oq (qv_mv (Value.int .i64 (p + 1)) rfl) ?_
          refine ops_nil ?_
          refine ⟨(p + 1), ⟨rfl, rfl, rfl, rfl, rfl, rfl, rfl, rfl, rfl, (congrArg (Value.int .i64) (show (p + 1) = ((p + 1)) from by omega)), trivial⟩, ⟨rfl, (show [(Arr 23 b1 [(Value.int .i64 (((stFold a ((srt xs).take (p + 1 : Int).toNat)).2).l)), (Value.int .i64 (((stFold a ((srt xs).take (p + 1 : Int).toNat)).2).h)), (Value.int .i64 (((stFold a ((srt xs).take (p + 1 : Int).toNat)).2).s))]), (Arr 23 b2 [(Value.int .i64 0), (Value.int .i64 0), (Value.int .i64 0)]), (Arr 23 b3 [(Value.int .i64 (((stFold a ((srt xs).take (p + 1 : Int).toNat)).1).l)), (Value.int .i64 (((stFold a ((srt xs).take (p + 1 : Int).toNat)).1).h)), (Value.int .i64 (((stFold a ((srt xs).take (p + 1 : Int).toNat)).1).s))])] = [(Arr 23 b1 [(Value.int .i64 ((abF ((stFold a ((srt xs).take p.toNat)).2) (gi ((srt xs)) (p))).l)), (Value.int .i64 ((abF ((stFold a ((srt xs).take p.toNat)).2) (gi ((srt xs)) (p))).h)), (Value.int .i64 ((abF ((stFold a ((srt xs).take p.toNat)).2) (gi ((srt xs)) (p))).s))]), (Arr 23 b2 [(Value.int .i64 0), (Value.int .i64 0), (Value.int .i64 0)]), (Arr 23 b3 [(Value.int .i64 ((joinF (stFold a ((srt xs).take p.toNat)).1 (sgl (gi (srt xs) p))).l)), (Value.int .i64 ((joinF (stFold a ((srt xs).take p.toNat)).1 (sgl (gi (srt xs) p))).h)), (Value.int .i64 ((joinF (stFold a ((srt xs).take p.toNat)).1 (sgl (gi (srt xs) p))).s))])] from by rw [take_step (by omega) (by omega), stFold_snoc]; first | (rw [stStep_1 (Decidable.not_not.1 (by assumption))]; done) | (rw [stStep_0 (by assumption)]; done)), by omega, by omega, all_snoc hf hfp⟩, by omega⟩
        ·
          refine vc_skip ?_
          refine vc_region ?_
          refine oq (qv_ldm (vs := [(Value.int .i64 ((abF ((stFold a ((srt xs).take p.toNat)).2) (gi ((srt xs)) (p))).l)), (Value.int .i64 ((abF ((stFold a ((srt xs).take p.toNat)).2) (gi ((srt xs)) (p))).h)), (Value.int .i64 ((abF ((stFold a ((srt xs).take p.toNat)).2) (gi ((srt xs)) (p))).s))]) Try.agg23 rfl (inOc (k := 4) rfl) rfl rfl) ?_
          refine ops_stm (k := 0) (off := 0) (v := (Value.agg #[(Value.int .i64 ((abF ((stFold a ((srt xs).take p.toNat)).2) (gi ((srt xs)) (p))).l)), (Value.int .i64 ((abF ((stFold a ((srt xs).take p.toNat)).2) (gi ((srt xs)) (p))).h)), (Value.int .i64 ((abF ((stFold a ((srt xs).take p.toNat)).2) (gi ((srt xs)) (p))).s))])) (vs := [(Value.int .i64 ((abF ((stFold a ((srt xs).take p.toNat)).2) (gi ((srt xs)) (p))).l)), (Value.int .i64 ((abF ((stFold a ((srt xs).take p.toNat)).2) (gi ((srt xs)) (p))).h)), (Value.int .i64 ((abF ((stFold a ((srt xs).take p.toNat)).2) (gi ((srt xs)) (p))).s))]) (cs := [(Value.int .i64 (((stFold a ((srt xs).take p.toNat)).2).l)), (Value.int .i64 (((stFold a ((srt xs).take p.toNat)).2).h)), (Value.int .i64 (((stFold a ((srt xs).take p.toNat)).2).s))]) (cs' := [(Value.int .i64 ((abF ((stFold a ((srt xs).take p.toNat)).2) (gi ((srt xs)) (p))).l)), (Value.int .i64 ((abF ((stFold a ((srt xs).take p.toNat)).2) (gi ((srt xs)) (p))).h)), (Value.int .i64 ((abF ((stFold a ((srt xs).take p.toNat)).2) (gi ((srt xs)) (p))).s))]) Try.size23 rfl rfl rfl rfl rfl rfl (Nat.le_of_ble_eq_true rfl) rfl ?_
          refine ops_nil ?_
          refine vc_res (σ' := [(Arr 23 b1 [(Value.int .i64 ((abF ((stFold a ((srt xs).take p.toNat)).2) (gi ((srt xs)) (p))).l)), (Value.int .i64 ((abF ((stFold a ((srt xs).take p.toNat)).2) (gi ((srt xs)) (p))).h)), (Value.int .i64 ((abF ((stFold a ((srt xs).take p.toNat)).2) (gi ((srt xs)) (p))).s))]), (Arr 23 b2 [(Value.int .i64 0), (Value.int .i64 0), (Value.int .i64 0)]), (Arr 23 b3 [(Value.int .i64 (((stFold a ((srt xs).take p.toNat)).1).l)), (Value.int .i64 (((stFold a ((srt xs).take p.toNat)).1).h)), (Value.int .i64 (((stFold a ((srt xs).take p.toNat)).1).s))]), (Arr 23 b4 [(Value.int .i64 ((upF ((stFold a ((srt xs).take p.toNat)).2) (gi ((srt xs)) (p))).l)), (Value.int .i64 ((upF ((stFold a ((srt xs).take p.toNat)).2) (gi ((srt xs)) (p))).h)), (Value.int .i64 ((upF ((stFold a ((srt xs).take p.toNat)).2) (gi ((srt xs)) (p))).s))]), (Arr 23 b5 [(Value.int .i64 ((abF ((stFold a ((srt xs).take p.toNat)).2) (gi ((srt xs)) (p))).l)), (Value.int .i64 ((abF ((stFold a ((srt xs).take p.toNat)).2) (gi ((srt xs)) (p))).h)), (Value.int .i64 ((abF ((stFold a ((srt xs).take p.toNat)).2) (gi ((srt xs)) (p))).s))])]) rfl ?_
          refine vc_drop [(Arr 23 b1 [(Value.int .i64 ((abF ((stFold a ((srt xs).take p.toNat)).2) (gi ((srt xs)) (p))).l)), (Value.int .i64 ((abF ((stFold a ((srt xs).take p.toNat)).2) (gi ((srt xs)) (p))).h)), (Value.int .i64 ((abF ((stFold a ((srt xs).take p.toNat)).2) (gi ((srt xs)) (p))).s))]), (Arr 23 b2 [(Value.int .i64 0), (Value.int .i64 0), (Value.int .i64 0)]), (Arr 23 b3 [(Value.int .i64 (((stFold a ((srt xs).take p.toNat)).1).l)), (Value.int .i64 (((stFold a ((srt xs).take p.toNat)).1).h)), (Value.int .i64 (((stFold a ((srt xs).take p.toNat)).1).s))]), (Arr 23 b4 [(Value.int .i64 ((upF ((stFold a ((srt xs).take p.toNat)).2) (gi ((srt xs)) (p))).l)), (Value.int .i64 ((upF ((stFold a ((srt xs).take p.toNat)).2) (gi ((srt xs)) (p))).h)), (Value.int .i64 ((upF ((stFold a ((srt xs).take p.toNat)).2) (gi ((srt xs)) (p))).s))])] [(Arr 23 b5 [(Value.int .i64 ((abF ((stFold a ((srt xs).take p.toNat)).2) (gi ((srt xs)) (p))).l)), (Value.int .i64 ((abF ((stFold a ((srt xs).take p.toNat)).2) (gi ((srt xs)) (p))).h)), (Value.int .i64 ((abF ((stFold a ((srt xs).take p.toNat)).2) (gi ((srt xs)) (p))).s))])] ((List.perm_middle (l₁ := [(Arr 23 b1 [(Value.int .i64 ((abF ((stFold a ((srt xs).take p.toNat)).2) (gi ((srt xs)) (p))).l)), (Value.int .i64 ((abF ((stFold a ((srt xs).take p.toNat)).2) (gi ((srt xs)) (p))).h)), (Value.int .i64 ((abF ((stFold a ((srt xs).take p.toNat)).2) (gi ((srt xs)) (p))).s))]), (Arr 23 b2 [(Value.int .i64 0), (Value.int .i64 0), (Value.int .i64 0)]), (Arr 23 b3 [(Value.int .i64 (((stFold a ((srt xs).take p.toNat)).1).l)), (Value.int .i64 (((stFold a ((srt xs).take p.toNat)).1).h)), (Value.int .i64 (((stFold a ((srt xs).take p.toNat)).1).s))]), (Arr 23 b4 [(Value.int .i64 ((upF ((stFold a ((srt xs).take p.toNat)).2) (gi ((srt xs)) (p))).l)), (Value.int .i64 ((upF ((stFold a ((srt xs).take p.toNat)).2) (gi ((srt xs)) (p))).h)), (Value.int .i64 ((upF ((stFold a ((srt xs).take p.toNat)).2) (gi ((srt xs)) (p))).s))])]) (l₂ := [])).trans (List.perm_append_comm (l₁ := [(Arr 23 b5 [(Value.int .i64 ((abF ((stFold a ((srt xs).take p.toNat)).2) (gi ((srt xs)) (p))).l)), (Value.int .i64 ((abF ((stFold a ((srt xs).take p.toNat)).2) (gi ((srt xs)) (p))).h)), (Value.int .i64 ((abF ((stFold a ((srt xs).take p.toNat)).2) (gi ((srt xs)) (p))).s))])]))) ?_
          refine vc_drop [(Arr 23 b1 [(Value.int .i64 ((abF ((stFold a ((srt xs).take p.toNat)).2) (gi ((srt xs)) (p))).l)), (Value.int .i64 ((abF ((stFold a ((srt xs).take p.toNat)).2) (gi ((srt xs)) (p))).h)), (Value.int .i64 ((abF ((stFold a ((srt xs).take p.toNat)).2) (gi ((srt xs)) (p))).s))]), (Arr 23 b2 [(Value.int .i64 0), (Value.int .i64 0), (Value.int .i64 0)]), (Arr 23 b3 [(Value.int .i64 (((stFold a ((srt xs).take p.toNat)).1).l)), (Value.int .i64 (((stFold a ((srt xs).take p.toNat)).1).h)), (Value.int .i64 (((stFold a ((srt xs).take p.toNat)).1).s))])] [(Arr 23 b4 [(Value.int .i64 ((upF ((stFold a ((srt xs).take p.toNat)).2) (gi ((srt xs)) (p))).l)), (Value.int .i64 ((upF ((stFold a ((srt xs).take p.toNat)).2) (gi ((srt xs)) (p))).h)), (Value.int .i64 ((upF ((stFold a ((srt xs).take p.toNat)).2) (gi ((srt xs)) (p))).s))])] ((List.perm_middle (l₁ := [(Arr 23 b1 [(Value.int .i64 ((abF ((stFold a ((srt xs).take p.toNat)).2) (gi ((srt xs)) (p))).l)), (Value.int .i64 ((abF ((stFold a ((srt xs).take p.toNat)).2) (gi ((srt xs)) (p))).h)), (Value.int .i64 ((abF ((stFold a ((srt xs).take p.toNat)).2) (gi ((srt xs)) (p))).s))]), (Arr 23 b2 [(Value.int .i64 0), (Value.int .i64 0), (Value.int .i64 0)]), (Arr 23 b3 [(Value.int .i64 (((stFold a ((srt xs).take p.toNat)).1).l)), (Value.int .i64 (((stFold a ((srt xs).take p.toNat)).1).h)), (Value.int .i64 (((stFold a ((srt xs).take p.toNat)).1).s))])]) (l₂ := [])).trans (List.perm_append_comm (l₁ := [(Arr 23 b4 [(Value.int .i64 ((upF ((stFold a ((srt xs).take p.toNat)).2) (gi ((srt xs)) (p))).l)), (Value.int .i64 ((upF ((stFold a ((srt xs).take p.toNat)).2) (gi ((srt xs)) (p))).h)), (Value.int .i64 ((upF ((stFold a ((srt xs).take p.toNat)).2) (gi ((srt xs)) (p))).s))])]))) ?_
          refine vc_region ?_
          refine oq (qv_add rfl rfl (by omega)) ?_
          refine oq (qv_mv (Value.int .i64 (p + 1)) rfl) ?_
          refine ops_nil ?_
          refine ⟨(p + 1), ⟨rfl, rfl, rfl, rfl, rfl, rfl, rfl, rfl, rfl, (congrArg (Value.int .i64) (show (p + 1) = ((p + 1)) from by omega)), trivial⟩, ⟨rfl, (show [(Arr 23 b1 [(Value.int .i64 (((stFold a ((srt xs).take (p + 1 : Int).toNat)).2).l)), (Value.int .i64 (((stFold a ((srt xs).take (p + 1 : Int).toNat)).2).h)), (Value.int .i64 (((stFold a ((srt xs).take (p + 1 : Int).toNat)).2).s))]), (Arr 23 b2 [(Value.int .i64 0), (Value.int .i64 0), (Value.int .i64 0)]), (Arr 23 b3 [(Value.int .i64 (((stFold a ((srt xs).take (p + 1 : Int).toNat)).1).l)), (Value.int .i64 (((stFold a ((srt xs).take (p + 1 : Int).toNat)).1).h)), (Value.int .i64 (((stFold a ((srt xs).take (p + 1 : Int).toNat)).1).s))])] = [(Arr 23 b1 [(Value.int .i64 ((abF ((stFold a ((srt xs).take p.toNat)).2) (gi ((srt xs)) (p))).l)), (Value.int .i64 ((abF ((stFold a ((srt xs).take p.toNat)).2) (gi ((srt xs)) (p))).h)), (Value.int .i64 ((abF ((stFold a ((srt xs).take p.toNat)).2) (gi ((srt xs)) (p))).s))]), (Arr 23 b2 [(Value.int .i64 0), (Value.int .i64 0), (Value.int .i64 0)]), (Arr 23 b3 [(Value.int .i64 (((stFold a ((srt xs).take p.toNat)).1).l)), (Value.int .i64 (((stFold a ((srt xs).take p.toNat)).1).h)), (Value.int .i64 (((stFold a ((srt xs).take p.toNat)).1).s))])] from by rw [take_step (by omega) (by omega), stFold_snoc]; first | (rw [stStep_1 (Decidable.not_not.1 (by assumption))]; done) | (rw [stStep_0 (by assumption)]; done)), by omega, by omega, all_snoc hf hfp⟩, by omega⟩
    ·
      refine vc_exit ?_
      refine blockQ_hit ?_
      refine vc_seq ?_
      have hall : fitAll xs = true := srt_fit.1 (fitAll_iff.2 fun i i0 i1 => hf i i0 (by omega))
      have hE := stE_0 hv hall
      have hS := stl_take hv (bs := xs) (p := p) (by omega) (by omega) hf
      have hsr := hS.vr
      have hso := hS.out.ok
      refine vc_region ?_
      refine oq (qv_ldm (vs := [(Value.int .i64 (((stFold a ((srt xs).take p.toNat)).1).l)), (Value.int .i64 (((stFold a ((srt xs).take p.toNat)).1).h)), (Value.int .i64 (((stFold a ((srt xs).take p.toNat)).1).s))]) Try.agg23 rfl (inOc (k := 2) rfl) rfl rfl) ?_
      refine oq (qv_ldm (vs := [(Value.int .i64 (((stFold a ((srt xs).take p.toNat)).2).l)), (Value.int .i64 (((stFold a ((srt xs).take p.toNat)).2).h)), (Value.int .i64 (((stFold a ((srt xs).take p.toNat)).2).s))]) Try.agg23 rfl (inOc (k := 0) rfl) rfl rfl) ?_
      refine oq (qv_call (v := (Value.agg #[(Value.int .i64 ((joinF (stFold a ((srt xs).take p.toNat)).1 (stFold a ((srt xs).take p.toNat)).2).l)), (Value.int .i64 ((joinF (stFold a ((srt xs).take p.toNat)).1 (stFold a ((srt xs).take p.toNat)).2).h)), (Value.int .i64 ((joinF (stFold a ((srt xs).take p.toNat)).1 (stFold a ((srt xs).take p.toNat)).2).s))])) (join_c (a := (stFold a ((srt xs).take p.toNat)).1) (b := (stFold a ((srt xs).take p.toNat)).2) hso hsr) rfl rfl) ?_
      refine ops_stm (k := 1) (off := 0) (v := (Value.agg #[(Value.int .i64 ((joinF (stFold a ((srt xs).take p.toNat)).1 (stFold a ((srt xs).take p.toNat)).2).l)), (Value.int .i64 ((joinF (stFold a ((srt xs).take p.toNat)).1 (stFold a ((srt xs).take p.toNat)).2).h)), (Value.int .i64 ((joinF (stFold a ((srt xs).take p.toNat)).1 (stFold a ((srt xs).take p.toNat)).2).s))])) (vs := [(Value.int .i64 ((joinF (stFold a ((srt xs).take p.toNat)).1 (stFold a ((srt xs).take p.toNat)).2).l)), (Value.int .i64 ((joinF (stFold a ((srt xs).take p.toNat)).1 (stFold a ((srt xs).take p.toNat)).2).h)), (Value.int .i64 ((joinF (stFold a ((srt xs).take p.toNat)).1 (stFold a ((srt xs).take p.toNat)).2).s))]) (cs := [(Value.int .i64 0), (Value.int .i64 0), (Value.int .i64 0)]) (cs' := [(Value.int .i64 ((joinF (stFold a ((srt xs).take p.toNat)).1 (stFold a ((srt xs).take p.toNat)).2).l)), (Value.int .i64 ((joinF (stFold a ((srt xs).take p.toNat)).1 (stFold a ((srt xs).take p.toNat)).2).h)), (Value.int .i64 ((joinF (stFold a ((srt xs).take p.toNat)).1 (stFold a ((srt xs).take p.toNat)).2).s))]) Try.size23 rfl rfl rfl rfl rfl rfl (Nat.le_of_ble_eq_true rfl) rfl ?_
      refine oq (qv_as (Value.int .i64 0) rfl) ?_
      refine ops_nil ?_
      refine vc_ret ?_
      refine rs2 (Value.agg #[(Value.int .i64 ((joinF (stFold a ((srt xs).take p.toNat)).1 (stFold a ((srt xs).take p.toNat)).2).l)), (Value.int .i64 ((joinF (stFold a ((srt xs).take p.toNat)).1 (stFold a ((srt xs).take p.toNat)).2).h)), (Value.int .i64 ((joinF (stFold a ((srt xs).take p.toNat)).1 (stFold a ((srt xs).take p.toNat)).2).s))]) (Value.int .i64 0) (rv_c (vs := [(Value.int .i64 ((joinF (stFold a ((srt xs).take p.toNat)).1 (stFold a ((srt xs).take p.toNat)).2).l)), (Value.int .i64 ((joinF (stFold a ((srt xs).take p.toNat)).1 (stFold a ((srt xs).take p.toNat)).2).h)), (Value.int .i64 ((joinF (stFold a ((srt xs).take p.toNat)).1 (stFold a ((srt xs).take p.toNat)).2).s))]) Try.agg23 rfl (inOc (k := 1) rfl) rfl rfl) (rv_t rfl) ?_
      exact tup2 (aggc (consc (congrArg (Value.int .i64) (show ((joinF (stFold a ((srt xs).take p.toNat)).1 (stFold a ((srt xs).take p.toNat)).2).l) = ((stN a xs).l) from by rw [stN_0 hE, show p.toNat = (srt xs).length by omega, List.take_length]; rfl)) (consc (congrArg (Value.int .i64) (show ((joinF (stFold a ((srt xs).take p.toNat)).1 (stFold a ((srt xs).take p.toNat)).2).h) = ((stN a xs).h) from by rw [stN_0 hE, show p.toNat = (srt xs).length by omega, List.take_length]; rfl)) (consc (congrArg (Value.int .i64) (show ((joinF (stFold a ((srt xs).take p.toNat)).1 (stFold a ((srt xs).take p.toNat)).2).s) = ((stN a xs).s) from by rw [stN_0 hE, show p.toNat = (srt xs).length by omega, List.take_length]; rfl)) rfl)))) (congrArg (Value.int .i64) (show 0 = (stE a xs) from by first | (rw [stE_1 (by assumption)]; done) | (rw [stE_3 hv hno]; done) | (rw [hE]; done)))

set_option maxRecDepth 100000 in
set_option maxHeartbeats 4000000 in
theorem rSettle_c {V : HV} {a : Nm} {x : Value} {xs : List Int} (hs : Ints .i64 V x xs) :
    FnC Try.prog 50 [(Value.agg #[(Value.int .i64 (a.l)), (Value.int .i64 (a.h)), (Value.int .i64 (a.s))]), x] V [] (fun v _ _ => v = .tuple #[(Value.agg #[(Value.int .i64 ((stN a xs).l)), (Value.int .i64 ((stN a xs).h)), (Value.int .i64 ((stN a xs).s))]), (Value.int .i64 (stE a xs))]) := by
  refine fn_intro (N := 77) Try.func50 (by kernel_rfl) rfl rfl rfl (Nat.le_of_ble_eq_true rfl) ?_
  intro w0 D
  have hbd := hs.bound
  refine vc_seq ?_
  refine vc_region ?_
  refine ops_box (v := (Value.agg #[(Value.int .i64 (a.l)), (Value.int .i64 (a.h)), (Value.int .i64 (a.s))])) (cs := [(Value.int .i64 (a.l)), (Value.int .i64 (a.h)), (Value.int .i64 (a.s))]) rfl rfl (fun b1 => ?_)
  refine ops_alloc Try.ti23 rfl (fun b2 => ?_)
  refine oq (qv_as (Value.int .i64 0) rfl) ?_
  refine ops_nil ?_
  refine vc_seq ?_
  refine vc_seq ?_
  refine vc_res (σ' := [(Arr 23 b1 [(Value.int .i64 (a.l)), (Value.int .i64 (a.h)), (Value.int .i64 (a.s))]), (Arr 23 b2 [(Value.int .i64 0), (Value.int .i64 0), (Value.int .i64 0)])]) rfl ?_
  refine vc_region ?_
  refine oq (qv_ldm (vs := [(Value.int .i64 (a.l)), (Value.int .i64 (a.h)), (Value.int .i64 (a.s))]) Try.agg23 rfl (inOc (k := 0) rfl) rfl rfl) ?_
  refine oq (qv_call (v := (Value.bool (decide (vld a)))) (rValid_c (a := a)) rfl rfl) ?_
  refine oq (qv_not rfl) ?_
  refine ops_nil ?_
  refine vc_if rfl (fun c1 => ?_) (fun c1 => ?_)
  ·
    refine vc_seq ?_
    refine vc_region ?_
    refine oq (qv_build (out := [(Value.int .i64 0), (Value.int .i64 0), (Value.int .i64 0)]) Try.build23 [] rfl rfl) ?_
    refine ops_stm (k := 1) (off := 0) (v := (Value.agg #[(Value.int .i64 0), (Value.int .i64 0), (Value.int .i64 0)])) (vs := [(Value.int .i64 0), (Value.int .i64 0), (Value.int .i64 0)]) (cs := [(Value.int .i64 0), (Value.int .i64 0), (Value.int .i64 0)]) (cs' := [(Value.int .i64 0), (Value.int .i64 0), (Value.int .i64 0)]) Try.size23 rfl rfl rfl rfl rfl rfl (Nat.le_of_ble_eq_true rfl) rfl ?_
    refine oq (qv_as (Value.int .i64 1) rfl) ?_
    refine ops_nil ?_
    refine vc_ret ?_
    refine rs2 (Value.agg #[(Value.int .i64 0), (Value.int .i64 0), (Value.int .i64 0)]) (Value.int .i64 1) (rv_c (vs := [(Value.int .i64 0), (Value.int .i64 0), (Value.int .i64 0)]) Try.agg23 rfl (inOc (k := 1) rfl) rfl rfl) (rv_t rfl) ?_
    exact tup2 (aggc (consc (congrArg (Value.int .i64) (show 0 = ((stN a xs).l) from by first | (rw [stN_1 (by rw [stE_1 (by assumption)]; omega)]; done) | (rw [stN_1 (by rw [stE_3 hv hno]; omega)]; done))) (consc (congrArg (Value.int .i64) (show 0 = ((stN a xs).h) from by first | (rw [stN_1 (by rw [stE_1 (by assumption)]; omega)]; done) | (rw [stN_1 (by rw [stE_3 hv hno]; omega)]; done))) (consc (congrArg (Value.int .i64) (show 0 = ((stN a xs).s) from by first | (rw [stN_1 (by rw [stE_1 (by assumption)]; omega)]; done) | (rw [stN_1 (by rw [stE_3 hv hno]; omega)]; done))) rfl)))) (congrArg (Value.int .i64) (show 1 = (stE a xs) from by first | (rw [stE_1 (by assumption)]; done) | (rw [stE_3 hv hno]; done) | (rw [hE]; done)))
  ·
    refine vc_skip ?_
    refine vc_seq ?_
    refine vc_seq ?_
    have hv : vld a := Decidable.not_not.1 (by assumption)
    refine vc_region ?_
    refine oq (qv_as (Value.int .i64 0) rfl) ?_
    refine ops_nil ?_
    refine vc_block ?_
    refine vc_loop (α := Int) (fun (xx : Int) => [(0, (Value.agg #[(Value.int .i64 (a.l)), (Value.int .i64 (a.h)), (Value.int .i64 (a.s))])), (1, x), (2, (Value.pointer (some ⟨b1, 0, none⟩))), (4, (Value.pointer (some ⟨b2, 0, none⟩))), (14, (Value.bool (decide (¬ (vld a))))), (6, (Value.int .i64 xx))]) (fun (xx : Int) V' σ' => V = V' ∧ [(Arr 23 b1 [(Value.int .i64 (a.l)), (Value.int .i64 (a.h)), (Value.int .i64 (a.s))]), (Arr 23 b2 [(Value.int .i64 0), (Value.int .i64 0), (Value.int .i64 0)])] = σ' ∧ 0 ≤ xx ∧ xx ≤ xs.length ∧ ∀ i : Int, 0 ≤ i → i < xx → fits (gi xs i)) (fun (xx : Int) => (xs.length - xx).toNat) (0) ?_ ?_ ?_
    · exact ⟨rfl, rfl, rfl, rfl, rfl, rfl, trivial⟩
    · exact ⟨rfl, rfl, by omega, by omega, fun i a b => by omega⟩
    rintro p e1 V0l σ0l hI0
    obtain ⟨rfl, rfl, i1, i2, hf⟩ : V = V0l ∧ [(Arr 23 b1 [(Value.int .i64 (a.l)), (Value.int .i64 (a.h)), (Value.int .i64 (a.s))]), (Arr 23 b2 [(Value.int .i64 0), (Value.int .i64 0), (Value.int .i64 0)])] = σ0l ∧ 0 ≤ p ∧ p ≤ xs.length ∧ ∀ i : Int, 0 ≤ i → i < p → fits (gi xs i) := hI0
    refine vc_seq ?_
    refine vc_seq ?_
    refine vc_region ?_
    refine oq (qv_mv (Value.int .i64 p) rfl) ?_
    refine oq (qv_mv x rfl) ?_
    refine oq (qv_lenI Try.underlying37 rfl hs) ?_
    refine oq (qv_lss rfl rfl) ?_
    refine ops_nil ?_
    refine vc_if rfl (fun c2 => ?_) (fun c2 => ?_)
    ·
      refine vc_skip ?_
      refine vc_seq ?_
      refine vc_block ?_
      refine vc_seq ?_
      refine vc_region ?_
      refine oq (qv_mv x rfl) ?_
      refine oq (qv_mv (Value.int .i64 p) rfl) ?_
      refine oq (qv_iai (v := x) (i := p) Try.underlying37 Try.size3 rfl (inVi hs) rfl (by omega) (by omega)) ?_
      refine oq (qv_ldi (v := x) (i := p) Try.plain3 rfl (inVi hs) (by omega) (by omega)) ?_
      refine oq (qv_call (v := (Value.bool (decide (fits (gi xs (p)))))) (rFits_c) rfl rfl) ?_
      refine oq (qv_not rfl) ?_
      refine ops_nil ?_
      refine vc_if rfl (fun c3 => ?_) (fun c3 => ?_)
      ·
        refine vc_seq ?_
        have hno : ¬ fitAll xs = true := fun e => absurd (fitAll_iff.1 e p (by omega) (by omega)) (by assumption)
        refine vc_region ?_
        refine oq (qv_build (out := [(Value.int .i64 0), (Value.int .i64 0), (Value.int .i64 0)]) Try.build23 [] rfl rfl) ?_
        refine ops_stm (k := 1) (off := 0) (v := (Value.agg #[(Value.int .i64 0), (Value.int .i64 0), (Value.int .i64 0)])) (vs := [(Value.int .i64 0), (Value.int .i64 0), (Value.int .i64 0)]) (cs := [(Value.int .i64 0), (Value.int .i64 0), (Value.int .i64 0)]) (cs' := [(Value.int .i64 0), (Value.int .i64 0), (Value.int .i64 0)]) Try.size23 rfl rfl rfl rfl rfl rfl (Nat.le_of_ble_eq_true rfl) rfl ?_
        refine oq (qv_as (Value.int .i64 3) rfl) ?_
        refine ops_nil ?_
        refine vc_ret ?_
        refine blockQ_ret ?_
        refine blockQ_ret ?_
        refine rs2 (Value.agg #[(Value.int .i64 0), (Value.int .i64 0), (Value.int .i64 0)]) (Value.int .i64 3) (rv_c (vs := [(Value.int .i64 0), (Value.int .i64 0), (Value.int .i64 0)]) Try.agg23 rfl (inOc (k := 1) rfl) rfl rfl) (rv_t rfl) ?_
        exact tup2 (aggc (consc (congrArg (Value.int .i64) (show 0 = ((stN a xs).l) from by first | (rw [stN_1 (by rw [stE_1 (by assumption)]; omega)]; done) | (rw [stN_1 (by rw [stE_3 hv hno]; omega)]; done))) (consc (congrArg (Value.int .i64) (show 0 = ((stN a xs).h) from by first | (rw [stN_1 (by rw [stE_1 (by assumption)]; omega)]; done) | (rw [stN_1 (by rw [stE_3 hv hno]; omega)]; done))) (consc (congrArg (Value.int .i64) (show 0 = ((stN a xs).s) from by first | (rw [stN_1 (by rw [stE_1 (by assumption)]; omega)]; done) | (rw [stN_1 (by rw [stE_3 hv hno]; omega)]; done))) rfl)))) (congrArg (Value.int .i64) (show 3 = (stE a xs) from by first | (rw [stE_1 (by assumption)]; done) | (rw [stE_3 hv hno]; done) | (rw [hE]; done)))
      ·
        refine vc_skip ?_
        refine vc_region ?_
        refine oq (qv_mv (Value.int .i64 p) rfl) ?_
        refine oq (qv_add rfl rfl (by omega)) ?_
        refine oq (qv_as (Value.int .i64 (p + 1)) rfl) ?_
        refine ops_nil ?_
        refine ⟨(p + 1), ⟨rfl, rfl, rfl, rfl, rfl, (congrArg (Value.int .i64) (show (p + 1) = ((p + 1)) from by omega)), trivial⟩, ⟨rfl, rfl, by omega, by omega, all_snoc hf (Decidable.not_not.1 (by assumption))⟩, by omega⟩
    ·
      refine vc_exit ?_
      refine blockQ_hit ?_
      refine vc_seq ?_
      have hfa : ∀ i : Int, 0 ≤ i → i < xs.length → fits (gi xs i) := fun i a b => hf i a (by omega)
      have hall : fitAll xs = true := fitAll_iff.2 hfa
      have hE := stE_0 hv hall
      have hst := st_least hv (bs := xs) (fun i i0 i1 => fitAll_iff.1 (srt_fit.2 hall) i i0 i1)
      refine vc_join (α := Nat × Nat) (fun xx => [(0, (Value.agg #[(Value.int .i64 (a.l)), (Value.int .i64 (a.h)), (Value.int .i64 (a.s))])), (1, x), (2, (Value.pointer (some ⟨b1, 0, none⟩))), (4, (Value.pointer (some ⟨b2, 0, none⟩))), (6, (Value.int .i64 p)), (7, (Value.pointer (some ⟨xx.1, 0, none⟩))), (8, (Value.pointer (some ⟨xx.2, 0, none⟩))), (14, (Value.bool (decide (¬ (vld a))))), (19, (Value.bool (decide (p < ((xs.length : Int))))))]) (fun xx V' σ' => V = V' ∧ [(Arr 23 b1 [(Value.int .i64 (a.l)), (Value.int .i64 (a.h)), (Value.int .i64 (a.s))]), (Arr 23 b2 [(Value.int .i64 0), (Value.int .i64 0), (Value.int .i64 0)]), (Arr 23 xx.1 [(Value.int .i64 (nE.l)), (Value.int .i64 (nE.h)), (Value.int .i64 (nE.s))]), (Arr 23 xx.2 [(Value.int .i64 (a.l)), (Value.int .i64 (a.h)), (Value.int .i64 (a.s))])] = σ') ?_ ?_
      ·
        refine vc_region_E (τ := []) (n := 6) [(Arr 23 b1 [(Value.int .i64 (a.l)), (Value.int .i64 (a.h)), (Value.int .i64 (a.s))]), (Arr 23 b2 [(Value.int .i64 0), (Value.int .i64 0), (Value.int .i64 0)])] Try.mixed (perm_nil _) rfl ?_
        refine eq_ (i := 0) (by kernel_rfl) rfl (qv_call (v := (Value.agg #[(Value.int .i64 (nE.l)), (Value.int .i64 (nE.h)), (Value.int .i64 (nE.s))])) (rNone_c) rfl rfl) ?_
        refine eq_ (i := 1) (by kernel_rfl) rfl (qv_ldm (vs := [(Value.int .i64 (a.l)), (Value.int .i64 (a.h)), (Value.int .i64 (a.s))]) Try.agg23 rfl (inOc (k := 0) rfl) rfl rfl) ?_
        refine el2 (i := 2) (j := 3) (by kernel_rfl) ?_ ?_
        ·
          refine ⟨_, rfl, ?_⟩
          refine ops_alloc Try.ti23 rfl (fun b3 => ?_)
          refine ops_nil ⟨[(Arr 23 b1 [(Value.int .i64 (a.l)), (Value.int .i64 (a.h)), (Value.int .i64 (a.s))]), (Arr 23 b2 [(Value.int .i64 0), (Value.int .i64 0), (Value.int .i64 0)])], [(Arr 23 b3 [(Value.int .i64 0), (Value.int .i64 0), (Value.int .i64 0)])], (perm_idx _ _ [0, 1, 2] rfl rfl), .inl ⟨(Sub.refl _), [], .refl _⟩, ?_⟩
          refine el1 (i := 3) (by kernel_rfl) ?_
          refine ⟨_, rfl, ?_⟩
          refine ops_alloc Try.ti23 rfl (fun b4 => ?_)
          refine ops_nil ⟨[(Arr 23 b1 [(Value.int .i64 (a.l)), (Value.int .i64 (a.h)), (Value.int .i64 (a.s))]), (Arr 23 b2 [(Value.int .i64 0), (Value.int .i64 0), (Value.int .i64 0)]), (Arr 23 b4 [(Value.int .i64 0), (Value.int .i64 0), (Value.int .i64 0)])], [(Arr 23 b3 [(Value.int .i64 0), (Value.int .i64 0), (Value.int .i64 0)])], (perm_idx _ _ [0, 1, 3, 2] rfl rfl), .inl ⟨(Sub.refl _), [(Arr 23 b4 [(Value.int .i64 0), (Value.int .i64 0), (Value.int .i64 0)])], .refl _⟩, ?_⟩
          refine el1 (i := 4) (by kernel_rfl) ?_
          refine ⟨_, rfl, ?_⟩
          refine ops_stm (k := 2) (off := 0) (v := (Value.agg #[(Value.int .i64 (nE.l)), (Value.int .i64 (nE.h)), (Value.int .i64 (nE.s))])) (vs := [(Value.int .i64 (nE.l)), (Value.int .i64 (nE.h)), (Value.int .i64 (nE.s))]) (cs := [(Value.int .i64 0), (Value.int .i64 0), (Value.int .i64 0)]) (cs' := [(Value.int .i64 (nE.l)), (Value.int .i64 (nE.h)), (Value.int .i64 (nE.s))]) Try.size23 rfl rfl rfl rfl rfl rfl (Nat.le_of_ble_eq_true rfl) rfl ?_
          refine ops_nil ⟨[(Arr 23 b1 [(Value.int .i64 (a.l)), (Value.int .i64 (a.h)), (Value.int .i64 (a.s))]), (Arr 23 b2 [(Value.int .i64 0), (Value.int .i64 0), (Value.int .i64 0)]), (Arr 23 b4 [(Value.int .i64 0), (Value.int .i64 0), (Value.int .i64 0)])], [(Arr 23 b3 [(Value.int .i64 (nE.l)), (Value.int .i64 (nE.h)), (Value.int .i64 (nE.s))])], (perm_idx _ _ [0, 1, 3, 2] rfl rfl), .inl ⟨(Sub.refl _), [], .refl _⟩, ?_⟩
          refine el1 (i := 5) (by kernel_rfl) ?_
          refine ⟨_, rfl, ?_⟩
          refine ops_stm (k := 3) (off := 0) (v := (Value.agg #[(Value.int .i64 (a.l)), (Value.int .i64 (a.h)), (Value.int .i64 (a.s))])) (vs := [(Value.int .i64 (a.l)), (Value.int .i64 (a.h)), (Value.int .i64 (a.s))]) (cs := [(Value.int .i64 0), (Value.int .i64 0), (Value.int .i64 0)]) (cs' := [(Value.int .i64 (a.l)), (Value.int .i64 (a.h)), (Value.int .i64 (a.s))]) Try.size23 rfl rfl rfl rfl rfl rfl (Nat.le_of_ble_eq_true rfl) rfl ?_
          refine ops_nil ⟨[(Arr 23 b1 [(Value.int .i64 (a.l)), (Value.int .i64 (a.h)), (Value.int .i64 (a.s))]), (Arr 23 b2 [(Value.int .i64 0), (Value.int .i64 0), (Value.int .i64 0)]), (Arr 23 b4 [(Value.int .i64 (a.l)), (Value.int .i64 (a.h)), (Value.int .i64 (a.s))])], [(Arr 23 b3 [(Value.int .i64 (nE.l)), (Value.int .i64 (nE.h)), (Value.int .i64 (nE.s))])], (perm_idx _ _ [0, 1, 3, 2] rfl rfl), .inr (by kernel_rfl), ?_⟩
          refine enil (σ' := [(Arr 23 b1 [(Value.int .i64 (a.l)), (Value.int .i64 (a.h)), (Value.int .i64 (a.s))]), (Arr 23 b2 [(Value.int .i64 0), (Value.int .i64 0), (Value.int .i64 0)]), (Arr 23 b3 [(Value.int .i64 (nE.l)), (Value.int .i64 (nE.h)), (Value.int .i64 (nE.s))]), (Arr 23 b4 [(Value.int .i64 (a.l)), (Value.int .i64 (a.h)), (Value.int .i64 (a.s))])]) (by kernel_rfl) (perm_idx _ _ [0, 1, 2, 3] rfl rfl) ⟨(b3, b4), ⟨rfl, rfl, rfl, rfl, rfl, rfl, rfl, rfl, rfl, trivial⟩, rfl, rfl⟩
        ·
          refine ⟨_, rfl, ?_⟩
          refine ops_alloc Try.ti23 rfl (fun b5 => ?_)
          refine ops_nil ⟨[(Arr 23 b1 [(Value.int .i64 (a.l)), (Value.int .i64 (a.h)), (Value.int .i64 (a.s))]), (Arr 23 b2 [(Value.int .i64 0), (Value.int .i64 0), (Value.int .i64 0)]), (Arr 23 b5 [(Value.int .i64 0), (Value.int .i64 0), (Value.int .i64 0)])], [], (perm_nil _), .inl ⟨(Sub.refl _), [(Arr 23 b5 [(Value.int .i64 0), (Value.int .i64 0), (Value.int .i64 0)])], .refl _⟩, ?_⟩
          refine el1 (i := 2) (by kernel_rfl) ?_
          refine ⟨_, rfl, ?_⟩
          refine ops_alloc Try.ti23 rfl (fun b6 => ?_)
          refine ops_nil ⟨[(Arr 23 b1 [(Value.int .i64 (a.l)), (Value.int .i64 (a.h)), (Value.int .i64 (a.s))]), (Arr 23 b2 [(Value.int .i64 0), (Value.int .i64 0), (Value.int .i64 0)]), (Arr 23 b5 [(Value.int .i64 0), (Value.int .i64 0), (Value.int .i64 0)])], [(Arr 23 b6 [(Value.int .i64 0), (Value.int .i64 0), (Value.int .i64 0)])], (perm_idx _ _ [0, 1, 2, 3] rfl rfl), .inl ⟨(Sub.refl _), [], .refl _⟩, ?_⟩
          refine el1 (i := 4) (by kernel_rfl) ?_
          refine ⟨_, rfl, ?_⟩
          refine ops_stm (k := 3) (off := 0) (v := (Value.agg #[(Value.int .i64 (nE.l)), (Value.int .i64 (nE.h)), (Value.int .i64 (nE.s))])) (vs := [(Value.int .i64 (nE.l)), (Value.int .i64 (nE.h)), (Value.int .i64 (nE.s))]) (cs := [(Value.int .i64 0), (Value.int .i64 0), (Value.int .i64 0)]) (cs' := [(Value.int .i64 (nE.l)), (Value.int .i64 (nE.h)), (Value.int .i64 (nE.s))]) Try.size23 rfl rfl rfl rfl rfl rfl (Nat.le_of_ble_eq_true rfl) rfl ?_
          refine ops_nil ⟨[(Arr 23 b1 [(Value.int .i64 (a.l)), (Value.int .i64 (a.h)), (Value.int .i64 (a.s))]), (Arr 23 b2 [(Value.int .i64 0), (Value.int .i64 0), (Value.int .i64 0)]), (Arr 23 b5 [(Value.int .i64 0), (Value.int .i64 0), (Value.int .i64 0)])], [(Arr 23 b6 [(Value.int .i64 (nE.l)), (Value.int .i64 (nE.h)), (Value.int .i64 (nE.s))])], (perm_idx _ _ [0, 1, 2, 3] rfl rfl), .inl ⟨(Sub.refl _), [], .refl _⟩, ?_⟩
          refine el1 (i := 5) (by kernel_rfl) ?_
          refine ⟨_, rfl, ?_⟩
          refine ops_stm (k := 2) (off := 0) (v := (Value.agg #[(Value.int .i64 (a.l)), (Value.int .i64 (a.h)), (Value.int .i64 (a.s))])) (vs := [(Value.int .i64 (a.l)), (Value.int .i64 (a.h)), (Value.int .i64 (a.s))]) (cs := [(Value.int .i64 0), (Value.int .i64 0), (Value.int .i64 0)]) (cs' := [(Value.int .i64 (a.l)), (Value.int .i64 (a.h)), (Value.int .i64 (a.s))]) Try.size23 rfl rfl rfl rfl rfl rfl (Nat.le_of_ble_eq_true rfl) rfl ?_
          refine ops_nil ⟨[(Arr 23 b1 [(Value.int .i64 (a.l)), (Value.int .i64 (a.h)), (Value.int .i64 (a.s))]), (Arr 23 b2 [(Value.int .i64 0), (Value.int .i64 0), (Value.int .i64 0)]), (Arr 23 b5 [(Value.int .i64 (a.l)), (Value.int .i64 (a.h)), (Value.int .i64 (a.s))])], [(Arr 23 b6 [(Value.int .i64 (nE.l)), (Value.int .i64 (nE.h)), (Value.int .i64 (nE.s))])], (perm_idx _ _ [0, 1, 2, 3] rfl rfl), .inr (by kernel_rfl), ?_⟩
          refine enil (σ' := [(Arr 23 b1 [(Value.int .i64 (a.l)), (Value.int .i64 (a.h)), (Value.int .i64 (a.s))]), (Arr 23 b2 [(Value.int .i64 0), (Value.int .i64 0), (Value.int .i64 0)]), (Arr 23 b6 [(Value.int .i64 (nE.l)), (Value.int .i64 (nE.h)), (Value.int .i64 (nE.s))]), (Arr 23 b5 [(Value.int .i64 (a.l)), (Value.int .i64 (a.h)), (Value.int .i64 (a.s))])]) (by kernel_rfl) (perm_idx _ _ [0, 1, 3, 2] rfl rfl) ⟨(b6, b5), ⟨rfl, rfl, rfl, rfl, rfl, rfl, rfl, rfl, rfl, trivial⟩, rfl, rfl⟩
      rintro ⟨z7, z8⟩ e2 Vj1 σj1 hJ1
      obtain ⟨rfl, rfl⟩ : V = Vj1 ∧ [(Arr 23 b1 [(Value.int .i64 (a.l)), (Value.int .i64 (a.h)), (Value.int .i64 (a.s))]), (Arr 23 b2 [(Value.int .i64 0), (Value.int .i64 0), (Value.int .i64 0)]), (Arr 23 z7 [(Value.int .i64 (nE.l)), (Value.int .i64 (nE.h)), (Value.int .i64 (nE.s))]), (Arr 23 z8 [(Value.int .i64 (a.l)), (Value.int .i64 (a.h)), (Value.int .i64 (a.s))])] = σj1 := hJ1
      change VC _ _ _ _ _ _ (upds 77 [(0, (Value.agg #[(Value.int .i64 (a.l)), (Value.int .i64 (a.h)), (Value.int .i64 (a.s))])), (1, x), (2, (Value.pointer (some ⟨b1, 0, none⟩))), (4, (Value.pointer (some ⟨b2, 0, none⟩))), (6, (Value.int .i64 p)), (7, (Value.pointer (some ⟨z7, 0, none⟩))), (8, (Value.pointer (some ⟨z8, 0, none⟩))), (14, (Value.bool (decide (¬ (vld a))))), (19, (Value.bool (decide (p < ((xs.length : Int))))))] e2) _ _
      refine vc_seq ?_
      refine vc_block ?_
      refine vc_loop (α := Nm × Nm) (fun (xx : Nm × Nm) => [(0, (Value.agg #[(Value.int .i64 (a.l)), (Value.int .i64 (a.h)), (Value.int .i64 (a.s))])), (1, x), (2, (Value.pointer (some ⟨b1, 0, none⟩))), (4, (Value.pointer (some ⟨b2, 0, none⟩))), (6, (Value.int .i64 p)), (7, (Value.pointer (some ⟨z7, 0, none⟩))), (8, (Value.pointer (some ⟨z8, 0, none⟩))), (14, (Value.bool (decide (¬ (vld a))))), (19, (Value.bool (decide (p < ((xs.length : Int))))))]) (fun (xx : Nm × Nm) V' σ' => V = V' ∧ [(Arr 23 b1 [(Value.int .i64 (a.l)), (Value.int .i64 (a.h)), (Value.int .i64 (a.s))]), (Arr 23 b2 [(Value.int .i64 0), (Value.int .i64 0), (Value.int .i64 0)]), (Arr 23 z7 [(Value.int .i64 (xx.1.l)), (Value.int .i64 (xx.1.h)), (Value.int .i64 (xx.1.s))]), (Arr 23 z8 [(Value.int .i64 (xx.2.l)), (Value.int .i64 (xx.2.h)), (Value.int .i64 (xx.2.s))])] = σ' ∧ Stm a xs xx.1 xx.2) (fun (xx : Nm × Nm) => (sizeF xx.2).toNat) (nE, a) ?_ ?_ ?_
      · exact ⟨rfl, rfl, rfl, rfl, rfl, rfl, rfl, rfl, rfl, trivial⟩
      · exact ⟨rfl, (show [(Arr 23 b1 [(Value.int .i64 (a.l)), (Value.int .i64 (a.h)), (Value.int .i64 (a.s))]), (Arr 23 b2 [(Value.int .i64 0), (Value.int .i64 0), (Value.int .i64 0)]), (Arr 23 z7 [(Value.int .i64 ((nE : Nm).l)), (Value.int .i64 ((nE : Nm).h)), (Value.int .i64 ((nE : Nm).s))]), (Arr 23 z8 [(Value.int .i64 ((a : Nm).l)), (Value.int .i64 ((a : Nm).h)), (Value.int .i64 ((a : Nm).s))])] = [(Arr 23 b1 [(Value.int .i64 (a.l)), (Value.int .i64 (a.h)), (Value.int .i64 (a.s))]), (Arr 23 b2 [(Value.int .i64 0), (Value.int .i64 0), (Value.int .i64 0)]), (Arr 23 z7 [(Value.int .i64 (nE.l)), (Value.int .i64 (nE.h)), (Value.int .i64 (nE.s))]), (Arr 23 z8 [(Value.int .i64 (a.l)), (Value.int .i64 (a.h)), (Value.int .i64 (a.s))])] from by rfl), stm_start hv⟩
      rintro ⟨o, r⟩ e3 V1l σ1l hI1
      obtain ⟨rfl, rfl, hm⟩ : V = V1l ∧ [(Arr 23 b1 [(Value.int .i64 (a.l)), (Value.int .i64 (a.h)), (Value.int .i64 (a.s))]), (Arr 23 b2 [(Value.int .i64 0), (Value.int .i64 0), (Value.int .i64 0)]), (Arr 23 z7 [(Value.int .i64 (o.l)), (Value.int .i64 (o.h)), (Value.int .i64 (o.s))]), (Arr 23 z8 [(Value.int .i64 (r.l)), (Value.int .i64 (r.h)), (Value.int .i64 (r.s))])] = σ1l ∧ Stm a xs o r := hI1
      change VC _ _ _ _ _ _ (upds 77 [(0, (Value.agg #[(Value.int .i64 (a.l)), (Value.int .i64 (a.h)), (Value.int .i64 (a.s))])), (1, x), (2, (Value.pointer (some ⟨b1, 0, none⟩))), (4, (Value.pointer (some ⟨b2, 0, none⟩))), (6, (Value.int .i64 p)), (7, (Value.pointer (some ⟨z7, 0, none⟩))), (8, (Value.pointer (some ⟨z8, 0, none⟩))), (14, (Value.bool (decide (¬ (vld a))))), (19, (Value.bool (decide (p < ((xs.length : Int))))))] e3) _ _
      refine vc_seq ?_
      refine vc_seq ?_
      refine vc_res (σ' := [(Arr 23 b1 [(Value.int .i64 (a.l)), (Value.int .i64 (a.h)), (Value.int .i64 (a.s))]), (Arr 23 b2 [(Value.int .i64 0), (Value.int .i64 0), (Value.int .i64 0)]), (Arr 23 z7 [(Value.int .i64 (o.l)), (Value.int .i64 (o.h)), (Value.int .i64 (o.s))]), (Arr 23 z8 [(Value.int .i64 (r.l)), (Value.int .i64 (r.h)), (Value.int .i64 (r.s))])]) rfl ?_
      refine vc_region ?_
      refine oq (qv_ldm (vs := [(Value.int .i64 (r.l)), (Value.int .i64 (r.h)), (Value.int .i64 (r.s))]) Try.agg23 rfl (inOc (k := 3) rfl) rfl rfl) ?_
      refine oq (qv_call (v := (Value.bool (decide (r.h < r.l)))) (rempty_c (a := r)) rfl rfl) ?_
      refine oq (qv_not rfl) ?_
      refine ops_nil ?_
      refine vc_if rfl (fun c4 => ?_) (fun c4 => ?_)
      ·
        refine vc_skip ?_
        refine vc_block ?_
        refine vc_seq ?_
        have hne : r ≠ nE := fun e => absurd ((vld_lt hm.vr).2 e) (by assumption)
        refine vc_region ?_
        refine oq (qv_as (Value.int .i64 0) rfl) ?_
        refine oq (qv_as (Value.bool false) rfl) ?_
        refine ops_nil ?_
        refine vc_seq ?_
        refine vc_seq ?_
        refine vc_region ?_
        refine oq (qv_as (Value.int .i64 0) rfl) ?_
        refine ops_nil ?_
        refine vc_block ?_
        refine vc_loop (α := Int × Int × Int) (fun (xx : Int × Int × Int) => [(0, (Value.agg #[(Value.int .i64 (a.l)), (Value.int .i64 (a.h)), (Value.int .i64 (a.s))])), (1, x), (2, (Value.pointer (some ⟨b1, 0, none⟩))), (4, (Value.pointer (some ⟨b2, 0, none⟩))), (6, (Value.int .i64 p)), (7, (Value.pointer (some ⟨z7, 0, none⟩))), (8, (Value.pointer (some ⟨z8, 0, none⟩))), (14, (Value.bool (decide (¬ (vld a))))), (19, (Value.bool (decide (p < ((xs.length : Int)))))), (33, (Value.bool (decide (¬ (r.h < r.l))))), (9, (Value.int .i64 xx.2.1)), (10, (Value.bool (decide (xx.2.2 = 1)))), (11, (Value.int .i64 xx.1))]) (fun (xx : Int × Int × Int) V' σ' => V = V' ∧ [(Arr 23 b1 [(Value.int .i64 (a.l)), (Value.int .i64 (a.h)), (Value.int .i64 (a.s))]), (Arr 23 b2 [(Value.int .i64 0), (Value.int .i64 0), (Value.int .i64 0)]), (Arr 23 z7 [(Value.int .i64 (o.l)), (Value.int .i64 (o.h)), (Value.int .i64 (o.s))]), (Arr 23 z8 [(Value.int .i64 (r.l)), (Value.int .i64 (r.h)), (Value.int .i64 (r.s))])] = σ' ∧ 0 ≤ xx.1 ∧ xx.1 ≤ xs.length ∧ Fd xs r.l xx.1 xx.2.1 (xx.2.2 = 1)) (fun (xx : Int × Int × Int) => (xs.length - xx.1).toNat) (0, 0, 0) ?_ ?_ ?_
        · exact ⟨rfl, rfl, rfl, rfl, rfl, rfl, rfl, rfl, rfl, rfl, rfl, (congrArg Value.bool (decide_eq_false (show ¬ (0 = 1) from by first | omega | simp)).symm), rfl, trivial⟩
        · exact (show V = V ∧ [(Arr 23 b1 [(Value.int .i64 (a.l)), (Value.int .i64 (a.h)), (Value.int .i64 (a.s))]), (Arr 23 b2 [(Value.int .i64 0), (Value.int .i64 0), (Value.int .i64 0)]), (Arr 23 z7 [(Value.int .i64 (o.l)), (Value.int .i64 (o.h)), (Value.int .i64 (o.s))]), (Arr 23 z8 [(Value.int .i64 (r.l)), (Value.int .i64 (r.h)), (Value.int .i64 (r.s))])] = [(Arr 23 b1 [(Value.int .i64 (a.l)), (Value.int .i64 (a.h)), (Value.int .i64 (a.s))]), (Arr 23 b2 [(Value.int .i64 0), (Value.int .i64 0), (Value.int .i64 0)]), (Arr 23 z7 [(Value.int .i64 (o.l)), (Value.int .i64 (o.h)), (Value.int .i64 (o.s))]), (Arr 23 z8 [(Value.int .i64 (r.l)), (Value.int .i64 (r.h)), (Value.int .i64 (r.s))])] ∧ 0 ≤ (0 : Int) ∧ (0 : Int) ≤ xs.length ∧ Fd xs r.l (0 : Int) (0 : Int) ((0 : Int) = 1) from ⟨rfl, rfl, by omega, by omega, fd_start2 xs r.l⟩)
        rintro ⟨i, best, m⟩ e4 V2l σ2l hI2
        obtain ⟨rfl, rfl, i3, i4, hF⟩ : V = V2l ∧ [(Arr 23 b1 [(Value.int .i64 (a.l)), (Value.int .i64 (a.h)), (Value.int .i64 (a.s))]), (Arr 23 b2 [(Value.int .i64 0), (Value.int .i64 0), (Value.int .i64 0)]), (Arr 23 z7 [(Value.int .i64 (o.l)), (Value.int .i64 (o.h)), (Value.int .i64 (o.s))]), (Arr 23 z8 [(Value.int .i64 (r.l)), (Value.int .i64 (r.h)), (Value.int .i64 (r.s))])] = σ2l ∧ 0 ≤ i ∧ i ≤ xs.length ∧ Fd xs r.l i best (m = 1) := hI2
        change VC _ _ _ _ _ _ (upds 77 [(0, (Value.agg #[(Value.int .i64 (a.l)), (Value.int .i64 (a.h)), (Value.int .i64 (a.s))])), (1, x), (2, (Value.pointer (some ⟨b1, 0, none⟩))), (4, (Value.pointer (some ⟨b2, 0, none⟩))), (6, (Value.int .i64 p)), (7, (Value.pointer (some ⟨z7, 0, none⟩))), (8, (Value.pointer (some ⟨z8, 0, none⟩))), (14, (Value.bool (decide (¬ (vld a))))), (19, (Value.bool (decide (p < ((xs.length : Int)))))), (33, (Value.bool (decide (¬ (r.h < r.l))))), (9, (Value.int .i64 best)), (10, (Value.bool (decide (m = 1)))), (11, (Value.int .i64 i))] e4) _ _
        refine vc_seq ?_
        refine vc_seq ?_
        refine vc_region ?_
        refine oq (qv_mv (Value.int .i64 i) rfl) ?_
        refine oq (qv_mv x rfl) ?_
        refine oq (qv_lenI Try.underlying37 rfl hs) ?_
        refine oq (qv_lss rfl rfl) ?_
        refine ops_nil ?_
        refine vc_if rfl (fun c5 => ?_) (fun c5 => ?_)
        ·
          refine vc_skip ?_
          refine vc_seq ?_
          refine vc_block ?_
          refine vc_seq ?_
          refine vc_region_any Try.mixed (by kernel_rfl) ?_
          refine qq (qv_mv x rfl) ?_
          refine qq (qv_mv (Value.int .i64 i) rfl) ?_
          refine qq (qv_iai (v := x) (i := i) Try.underlying37 Try.size3 rfl (inVi hs) rfl (by omega) (by omega)) ?_
          refine qq (qv_ldi (v := x) (i := i) Try.plain3 rfl (inVi hs) (by omega) (by omega)) ?_
          refine qq (qv_fa (off := 0) Try.field23_0 rfl) ?_
          refine qq (qv_ldp (v := (Value.int .i64 (r.l))) Try.plain3 rfl (inOc (k := 3) rfl) rfl) ?_
          refine qq (qv_geq rfl rfl) ?_
          refine qq (qv_mv (Value.bool (decide (r.l ≤ (gi xs (i))))) rfl) ?_
          by_cases g1 : r.l ≤ (gi xs (i))
          ·
            refine qg (qv_mv (Value.bool (decide (m = 1))) rfl) (want_t g1 rfl rfl rfl) ?_
            refine qg (qv_not rfl) (want_t g1 rfl rfl rfl) ?_
            refine qg (qv_mv (Value.bool (decide (¬ (m = 1)))) rfl) (want_t g1 rfl rfl rfl) ?_
            by_cases g2 : ¬ (m = 1)
            ·
              refine qs (want_fn g2 rfl rfl rfl) ?_
              refine qs (want_fn g2 rfl rfl rfl) ?_
              refine qs (want_fn g2 rfl rfl rfl) ?_
              refine qs (want_fn g2 rfl rfl rfl) ?_
              refine qs (want_fn g2 rfl rfl rfl) ?_
              refine qs (want_fn g2 rfl rfl rfl) ?_
              refine qg (qv_pick_t g2 rfl (rfl : ev _ _ = (Value.bool true))) (want_t g1 rfl rfl rfl) ?_
              refine qq (qv_pick_t g1 rfl (rfl : ev _ _ = (Value.bool true))) ?_
              refine qops_nil ?_
              refine vc_tt rfl ?_
              refine vc_region ?_
              refine oq (qv_mv x rfl) ?_
              refine oq (qv_mv (Value.int .i64 i) rfl) ?_
              refine oq (qv_iai (v := x) (i := i) Try.underlying37 Try.size3 rfl (inVi hs) rfl (by omega) (by omega)) ?_
              refine oq (qv_ldi (v := x) (i := i) Try.plain3 rfl (inVi hs) (by omega) (by omega)) ?_
              refine oq (qv_as (Value.int .i64 (gi xs (i))) rfl) ?_
              refine oq (qv_as (Value.bool true) rfl) ?_
              refine ops_nil ?_
              refine vc_region ?_
              refine oq (qv_mv (Value.int .i64 i) rfl) ?_
              refine oq (qv_add rfl rfl (by omega)) ?_
              refine oq (qv_as (Value.int .i64 (i + 1)) rfl) ?_
              refine ops_nil ?_
              refine ⟨(i + 1, gi xs i, 1), ⟨rfl, rfl, rfl, rfl, rfl, rfl, rfl, rfl, rfl, rfl, (congrArg (Value.int .i64) (show (gi xs (i)) = ((gi xs i)) from by rfl)), (congrArg Value.bool (decide_eq_true (show (1 = 1) from by first | rfl | omega)).symm), (congrArg (Value.int .i64) (show (i + 1) = ((i + 1)) from by rfl)), trivial⟩, (show V = V ∧ [(Arr 23 b1 [(Value.int .i64 (a.l)), (Value.int .i64 (a.h)), (Value.int .i64 (a.s))]), (Arr 23 b2 [(Value.int .i64 0), (Value.int .i64 0), (Value.int .i64 0)]), (Arr 23 z7 [(Value.int .i64 (o.l)), (Value.int .i64 (o.h)), (Value.int .i64 (o.s))]), (Arr 23 z8 [(Value.int .i64 (r.l)), (Value.int .i64 (r.h)), (Value.int .i64 (r.s))])] = [(Arr 23 b1 [(Value.int .i64 (a.l)), (Value.int .i64 (a.h)), (Value.int .i64 (a.s))]), (Arr 23 b2 [(Value.int .i64 0), (Value.int .i64 0), (Value.int .i64 0)]), (Arr 23 z7 [(Value.int .i64 (o.l)), (Value.int .i64 (o.h)), (Value.int .i64 (o.s))]), (Arr 23 z8 [(Value.int .i64 (r.l)), (Value.int .i64 (r.h)), (Value.int .i64 (r.s))])] ∧ 0 ≤ (i + 1 : Int) ∧ (i + 1 : Int) ≤ xs.length ∧ Fd xs r.l (i + 1 : Int) (gi xs i : Int) ((1 : Int) = 1) from ⟨rfl, rfl, by omega, by omega, fd_true (fd_take hF (by omega) (by omega) (by first | exact Or.inl (by assumption) | exact Or.inr (by omega))) rfl⟩), show (xs.length - (i + 1)).toNat < (xs.length - i).toNat from by omega⟩
            ·
              refine qg (qv_mv x rfl) (want_f g2 rfl rfl rfl) ?_
              refine qg (qv_mv (Value.int .i64 i) rfl) (want_f g2 rfl rfl rfl) ?_
              refine qg (qv_iai (v := x) (i := i) Try.underlying37 Try.size3 rfl (inVi hs) rfl (by omega) (by omega)) (want_f g2 rfl rfl rfl) ?_
              refine qg (qv_ldi (v := x) (i := i) Try.plain3 rfl (inVi hs) (by omega) (by omega)) (want_f g2 rfl rfl rfl) ?_
              refine qg (qv_mv (Value.int .i64 best) rfl) (want_f g2 rfl rfl rfl) ?_
              refine qg (qv_lss rfl rfl) (want_f g2 rfl rfl rfl) ?_
              refine qg (qv_pick_f g2 rfl (rfl : ev _ _ = (Value.bool (decide ((gi xs (i)) < best))))) (want_t g1 rfl rfl rfl) ?_
              refine qq (qv_pick_t g1 rfl (rfl : ev _ _ = (Value.bool (decide ((gi xs (i)) < best))))) ?_
              refine qops_nil ?_
              refine vc_if rfl (fun c6 => ?_) (fun c6 => ?_)
              ·
                refine vc_region ?_
                refine oq (qv_mv x rfl) ?_
                refine oq (qv_mv (Value.int .i64 i) rfl) ?_
                refine oq (qv_iai (v := x) (i := i) Try.underlying37 Try.size3 rfl (inVi hs) rfl (by omega) (by omega)) ?_
                refine oq (qv_ldi (v := x) (i := i) Try.plain3 rfl (inVi hs) (by omega) (by omega)) ?_
                refine oq (qv_as (Value.int .i64 (gi xs (i))) rfl) ?_
                refine oq (qv_as (Value.bool true) rfl) ?_
                refine ops_nil ?_
                refine vc_region ?_
                refine oq (qv_mv (Value.int .i64 i) rfl) ?_
                refine oq (qv_add rfl rfl (by omega)) ?_
                refine oq (qv_as (Value.int .i64 (i + 1)) rfl) ?_
                refine ops_nil ?_
                refine ⟨(i + 1, gi xs i, 1), ⟨rfl, rfl, rfl, rfl, rfl, rfl, rfl, rfl, rfl, rfl, (congrArg (Value.int .i64) (show (gi xs (i)) = ((gi xs i)) from by rfl)), (congrArg Value.bool (decide_eq_true (show (1 = 1) from by first | rfl | omega)).symm), (congrArg (Value.int .i64) (show (i + 1) = ((i + 1)) from by rfl)), trivial⟩, (show V = V ∧ [(Arr 23 b1 [(Value.int .i64 (a.l)), (Value.int .i64 (a.h)), (Value.int .i64 (a.s))]), (Arr 23 b2 [(Value.int .i64 0), (Value.int .i64 0), (Value.int .i64 0)]), (Arr 23 z7 [(Value.int .i64 (o.l)), (Value.int .i64 (o.h)), (Value.int .i64 (o.s))]), (Arr 23 z8 [(Value.int .i64 (r.l)), (Value.int .i64 (r.h)), (Value.int .i64 (r.s))])] = [(Arr 23 b1 [(Value.int .i64 (a.l)), (Value.int .i64 (a.h)), (Value.int .i64 (a.s))]), (Arr 23 b2 [(Value.int .i64 0), (Value.int .i64 0), (Value.int .i64 0)]), (Arr 23 z7 [(Value.int .i64 (o.l)), (Value.int .i64 (o.h)), (Value.int .i64 (o.s))]), (Arr 23 z8 [(Value.int .i64 (r.l)), (Value.int .i64 (r.h)), (Value.int .i64 (r.s))])] ∧ 0 ≤ (i + 1 : Int) ∧ (i + 1 : Int) ≤ xs.length ∧ Fd xs r.l (i + 1 : Int) (gi xs i : Int) ((1 : Int) = 1) from ⟨rfl, rfl, by omega, by omega, fd_true (fd_take hF (by omega) (by omega) (by first | exact Or.inl (by assumption) | exact Or.inr (by omega))) rfl⟩), show (xs.length - (i + 1)).toNat < (xs.length - i).toNat from by omega⟩
              ·
                refine vc_skip ?_
                refine vc_region ?_
                refine oq (qv_mv (Value.int .i64 i) rfl) ?_
                refine oq (qv_add rfl rfl (by omega)) ?_
                refine oq (qv_as (Value.int .i64 (i + 1)) rfl) ?_
                refine ops_nil ?_
                refine ⟨(i + 1, best, m), ⟨rfl, rfl, rfl, rfl, rfl, rfl, rfl, rfl, rfl, rfl, rfl, rfl, (congrArg (Value.int .i64) (show (i + 1) = ((i + 1)) from by rfl)), trivial⟩, (show V = V ∧ [(Arr 23 b1 [(Value.int .i64 (a.l)), (Value.int .i64 (a.h)), (Value.int .i64 (a.s))]), (Arr 23 b2 [(Value.int .i64 0), (Value.int .i64 0), (Value.int .i64 0)]), (Arr 23 z7 [(Value.int .i64 (o.l)), (Value.int .i64 (o.h)), (Value.int .i64 (o.s))]), (Arr 23 z8 [(Value.int .i64 (r.l)), (Value.int .i64 (r.h)), (Value.int .i64 (r.s))])] = [(Arr 23 b1 [(Value.int .i64 (a.l)), (Value.int .i64 (a.h)), (Value.int .i64 (a.s))]), (Arr 23 b2 [(Value.int .i64 0), (Value.int .i64 0), (Value.int .i64 0)]), (Arr 23 z7 [(Value.int .i64 (o.l)), (Value.int .i64 (o.h)), (Value.int .i64 (o.s))]), (Arr 23 z8 [(Value.int .i64 (r.l)), (Value.int .i64 (r.h)), (Value.int .i64 (r.s))])] ∧ 0 ≤ (i + 1 : Int) ∧ (i + 1 : Int) ≤ xs.length ∧ Fd xs r.l (i + 1 : Int) best (m = 1) from ⟨rfl, rfl, by omega, by omega, fd_skip hF (by omega) (by omega)⟩), show (xs.length - (i + 1)).toNat < (xs.length - i).toNat from by omega⟩
          ·
            refine qs (want_tn g1 rfl rfl rfl) ?_
            refine qs (want_tn g1 rfl rfl rfl) ?_
            refine qs (want_tn g1 rfl rfl rfl) ?_
            refine qs (want_u rfl rfl rfl) ?_
            refine qs (want_u rfl rfl rfl) ?_
            refine qs (want_u rfl rfl rfl) ?_
            refine qs (want_u rfl rfl rfl) ?_
            refine qs (want_u rfl rfl rfl) ?_
            refine qs (want_u rfl rfl rfl) ?_
            refine qs (want_tn g1 rfl rfl rfl) ?_
            refine qq (qv_pick_f g1 rfl (rfl : ev _ _ = (Value.bool false))) ?_
            refine qops_nil ?_
            refine vc_ff rfl ?_
            refine vc_skip ?_
            refine vc_region ?_
            refine oq (qv_mv (Value.int .i64 i) rfl) ?_
            refine oq (qv_add rfl rfl (by omega)) ?_
            refine oq (qv_as (Value.int .i64 (i + 1)) rfl) ?_
            refine ops_nil ?_
            refine ⟨(i + 1, best, m), ⟨rfl, rfl, rfl, rfl, rfl, rfl, rfl, rfl, rfl, rfl, rfl, rfl, (congrArg (Value.int .i64) (show (i + 1) = ((i + 1)) from by rfl)), trivial⟩, (show V = V ∧ [(Arr 23 b1 [(Value.int .i64 (a.l)), (Value.int .i64 (a.h)), (Value.int .i64 (a.s))]), (Arr 23 b2 [(Value.int .i64 0), (Value.int .i64 0), (Value.int .i64 0)]), (Arr 23 z7 [(Value.int .i64 (o.l)), (Value.int .i64 (o.h)), (Value.int .i64 (o.s))]), (Arr 23 z8 [(Value.int .i64 (r.l)), (Value.int .i64 (r.h)), (Value.int .i64 (r.s))])] = [(Arr 23 b1 [(Value.int .i64 (a.l)), (Value.int .i64 (a.h)), (Value.int .i64 (a.s))]), (Arr 23 b2 [(Value.int .i64 0), (Value.int .i64 0), (Value.int .i64 0)]), (Arr 23 z7 [(Value.int .i64 (o.l)), (Value.int .i64 (o.h)), (Value.int .i64 (o.s))]), (Arr 23 z8 [(Value.int .i64 (r.l)), (Value.int .i64 (r.h)), (Value.int .i64 (r.s))])] ∧ 0 ≤ (i + 1 : Int) ∧ (i + 1 : Int) ≤ xs.length ∧ Fd xs r.l (i + 1 : Int) best (m = 1) from ⟨rfl, rfl, by omega, by omega, fd_skip hF (by omega) (by omega)⟩), show (xs.length - (i + 1)).toNat < (xs.length - i).toNat from by omega⟩
        ·
          refine vc_exit ?_
          refine blockQ_hit ?_
          refine vc_seq ?_
          refine vc_seq ?_
          refine vc_region ?_
          refine oq (qv_mv (Value.bool (decide (m = 1))) rfl) ?_
          refine oq (qv_not rfl) ?_
          refine ops_nil ?_
          refine vc_if rfl (fun c7 => ?_) (fun c7 => ?_)
          ·
            refine vc_seq ?_
            have hun := (stm_none hm (fd_no hF (by omega) (by assumption))).unique hst
            refine vc_region ?_
            refine oq (qv_ldm (vs := [(Value.int .i64 (o.l)), (Value.int .i64 (o.h)), (Value.int .i64 (o.s))]) Try.agg23 rfl (inOc (k := 2) rfl) rfl rfl) ?_
            refine oq (qv_ldm (vs := [(Value.int .i64 (r.l)), (Value.int .i64 (r.h)), (Value.int .i64 (r.s))]) Try.agg23 rfl (inOc (k := 3) rfl) rfl rfl) ?_
            refine oq (qv_call (v := (Value.agg #[(Value.int .i64 ((joinF o r).l)), (Value.int .i64 ((joinF o r).h)), (Value.int .i64 ((joinF o r).s))])) (rJoin_c (a := o) (b := r) hm.out.ok hm.vr) rfl rfl) ?_
            refine ops_stm (k := 1) (off := 0) (v := (Value.agg #[(Value.int .i64 ((joinF o r).l)), (Value.int .i64 ((joinF o r).h)), (Value.int .i64 ((joinF o r).s))])) (vs := [(Value.int .i64 ((joinF o r).l)), (Value.int .i64 ((joinF o r).h)), (Value.int .i64 ((joinF o r).s))]) (cs := [(Value.int .i64 0), (Value.int .i64 0), (Value.int .i64 0)]) (cs' := [(Value.int .i64 ((joinF o r).l)), (Value.int .i64 ((joinF o r).h)), (Value.int .i64 ((joinF o r).s))]) Try.size23 rfl rfl rfl rfl rfl rfl (Nat.le_of_ble_eq_true rfl) rfl ?_
            refine oq (qv_as (Value.int .i64 0) rfl) ?_
            refine ops_nil ?_
            refine vc_ret ?_
            refine blockQ_ret ?_
            refine blockQ_ret ?_
            refine rs2 (Value.agg #[(Value.int .i64 ((joinF o r).l)), (Value.int .i64 ((joinF o r).h)), (Value.int .i64 ((joinF o r).s))]) (Value.int .i64 0) (rv_c (vs := [(Value.int .i64 ((joinF o r).l)), (Value.int .i64 ((joinF o r).h)), (Value.int .i64 ((joinF o r).s))]) Try.agg23 rfl (inOc (k := 1) rfl) rfl rfl) (rv_t rfl) ?_
            exact tup2 (aggc (consc (congrArg (Value.int .i64) (show ((joinF o r).l) = ((stN a xs).l) from by rw [stN_0 hE, hun])) (consc (congrArg (Value.int .i64) (show ((joinF o r).h) = ((stN a xs).h) from by rw [stN_0 hE, hun])) (consc (congrArg (Value.int .i64) (show ((joinF o r).s) = ((stN a xs).s) from by rw [stN_0 hE, hun])) rfl)))) (congrArg (Value.int .i64) (show 0 = (stE a xs) from by first | (rw [stE_1 (by assumption)]; done) | (rw [stE_3 hv hno]; done) | (rw [hE]; done)))
          ·
            refine vc_skip ?_
            refine vc_seq ?_
            have hlb := fd_yes hF (by omega) (Decidable.not_not.1 (by assumption))
            have hfb : fits best := fitAll_mem.1 hall best hlb.1
            refine vc_region ?_
            refine oq (qv_ldm (vs := [(Value.int .i64 (o.l)), (Value.int .i64 (o.h)), (Value.int .i64 (o.s))]) Try.agg23 rfl (inOc (k := 2) rfl) rfl rfl) ?_
            refine oq (qv_mv (Value.int .i64 best) rfl) ?_
            refine oq (qv_mv (Value.int .i64 best) rfl) ?_
            refine oq (qv_build (out := [(Value.int .i64 best), (Value.int .i64 best), (Value.int .i64 0)]) Try.build23 [(0, [(Value.int .i64 best)]), (1, [(Value.int .i64 best)])] rfl rfl) ?_
            refine oq (qv_call (v := (Value.agg #[(Value.int .i64 ((joinF o (sgl best)).l)), (Value.int .i64 ((joinF o (sgl best)).h)), (Value.int .i64 ((joinF o (sgl best)).s))])) (rJoin_c (a := o) (b := sgl best) hm.out.ok (vld_sgl hfb)) rfl rfl) ?_
            refine ops_stm (k := 2) (off := 0) (v := (Value.agg #[(Value.int .i64 ((joinF o (sgl best)).l)), (Value.int .i64 ((joinF o (sgl best)).h)), (Value.int .i64 ((joinF o (sgl best)).s))])) (vs := [(Value.int .i64 ((joinF o (sgl best)).l)), (Value.int .i64 ((joinF o (sgl best)).h)), (Value.int .i64 ((joinF o (sgl best)).s))]) (cs := [(Value.int .i64 (o.l)), (Value.int .i64 (o.h)), (Value.int .i64 (o.s))]) (cs' := [(Value.int .i64 ((joinF o (sgl best)).l)), (Value.int .i64 ((joinF o (sgl best)).h)), (Value.int .i64 ((joinF o (sgl best)).s))]) Try.size23 rfl rfl rfl rfl rfl rfl (Nat.le_of_ble_eq_true rfl) rfl ?_
            refine ops_nil ?_
            refine vc_res (σ' := [(Arr 23 b1 [(Value.int .i64 (a.l)), (Value.int .i64 (a.h)), (Value.int .i64 (a.s))]), (Arr 23 b2 [(Value.int .i64 0), (Value.int .i64 0), (Value.int .i64 0)]), (Arr 23 z7 [(Value.int .i64 ((joinF o (sgl best)).l)), (Value.int .i64 ((joinF o (sgl best)).h)), (Value.int .i64 ((joinF o (sgl best)).s))]), (Arr 23 z8 [(Value.int .i64 (r.l)), (Value.int .i64 (r.h)), (Value.int .i64 (r.s))])]) rfl ?_
            refine vc_region ?_
            refine oq (qv_ldm (vs := [(Value.int .i64 (r.l)), (Value.int .i64 (r.h)), (Value.int .i64 (r.s))]) Try.agg23 rfl (inOc (k := 3) rfl) rfl rfl) ?_
            refine oq (qv_mv (Value.int .i64 best) rfl) ?_
            refine oq (qv_call (v := (Value.agg #[(Value.int .i64 ((abF r best).l)), (Value.int .i64 ((abF r best).h)), (Value.int .i64 ((abF r best).s))])) (rAbove_c (a := r) hm.vr) rfl rfl) ?_
            refine ops_stm (k := 3) (off := 0) (v := (Value.agg #[(Value.int .i64 ((abF r best).l)), (Value.int .i64 ((abF r best).h)), (Value.int .i64 ((abF r best).s))])) (vs := [(Value.int .i64 ((abF r best).l)), (Value.int .i64 ((abF r best).h)), (Value.int .i64 ((abF r best).s))]) (cs := [(Value.int .i64 (r.l)), (Value.int .i64 (r.h)), (Value.int .i64 (r.s))]) (cs' := [(Value.int .i64 ((abF r best).l)), (Value.int .i64 ((abF r best).h)), (Value.int .i64 ((abF r best).s))]) Try.size23 rfl rfl rfl rfl rfl rfl (Nat.le_of_ble_eq_true rfl) rfl ?_
            refine ops_nil ?_
            refine ⟨(joinF o (sgl best), abF r best), ⟨rfl, rfl, rfl, rfl, rfl, rfl, rfl, rfl, rfl, trivial⟩, ⟨rfl, (show [(Arr 23 b1 [(Value.int .i64 (a.l)), (Value.int .i64 (a.h)), (Value.int .i64 (a.s))]), (Arr 23 b2 [(Value.int .i64 0), (Value.int .i64 0), (Value.int .i64 0)]), (Arr 23 z7 [(Value.int .i64 ((joinF o (sgl best) : Nm).l)), (Value.int .i64 ((joinF o (sgl best) : Nm).h)), (Value.int .i64 ((joinF o (sgl best) : Nm).s))]), (Arr 23 z8 [(Value.int .i64 ((abF r best : Nm).l)), (Value.int .i64 ((abF r best : Nm).h)), (Value.int .i64 ((abF r best : Nm).s))])] = [(Arr 23 b1 [(Value.int .i64 (a.l)), (Value.int .i64 (a.h)), (Value.int .i64 (a.s))]), (Arr 23 b2 [(Value.int .i64 0), (Value.int .i64 0), (Value.int .i64 0)]), (Arr 23 z7 [(Value.int .i64 ((joinF o (sgl best)).l)), (Value.int .i64 ((joinF o (sgl best)).h)), (Value.int .i64 ((joinF o (sgl best)).s))]), (Arr 23 z8 [(Value.int .i64 ((abF r best).l)), (Value.int .i64 ((abF r best).h)), (Value.int .i64 ((abF r best).s))])] from by rfl), (stm_step hm hne hlb hfb).1⟩, by have h1 := (stm_step hm hne hlb hfb).2; have h2 := (size_bd (stm_step hm hne hlb hfb).1.vr).1; show (sizeF (abF r best)).toNat < (sizeF r).toNat; omega⟩
      ·
        refine vc_exit ?_
        refine blockQ_hit ?_
        refine vc_seq ?_
        have hun := (stm_end hm ((vld_lt hm.vr).1 (Decidable.not_not.1 (by assumption)))).unique hst
        refine vc_region ?_
        refine oq (qv_ldm (vs := [(Value.int .i64 (o.l)), (Value.int .i64 (o.h)), (Value.int .i64 (o.s))]) Try.agg23 rfl (inOc (k := 2) rfl) rfl rfl) ?_
        refine ops_stm (k := 1) (off := 0) (v := (Value.agg #[(Value.int .i64 (o.l)), (Value.int .i64 (o.h)), (Value.int .i64 (o.s))])) (vs := [(Value.int .i64 (o.l)), (Value.int .i64 (o.h)), (Value.int .i64 (o.s))]) (cs := [(Value.int .i64 0), (Value.int .i64 0), (Value.int .i64 0)]) (cs' := [(Value.int .i64 (o.l)), (Value.int .i64 (o.h)), (Value.int .i64 (o.s))]) Try.size23 rfl rfl rfl rfl rfl rfl (Nat.le_of_ble_eq_true rfl) rfl ?_
        refine oq (qv_as (Value.int .i64 0) rfl) ?_
        refine ops_nil ?_
        refine vc_ret ?_
        refine rs2 (Value.agg #[(Value.int .i64 (o.l)), (Value.int .i64 (o.h)), (Value.int .i64 (o.s))]) (Value.int .i64 0) (rv_c (vs := [(Value.int .i64 (o.l)), (Value.int .i64 (o.h)), (Value.int .i64 (o.s))]) Try.agg23 rfl (inOc (k := 1) rfl) rfl rfl) (rv_t rfl) ?_
        exact tup2 (aggc (consc (congrArg (Value.int .i64) (show o.l = ((stN a xs).l) from by rw [stN_0 hE, hun])) (consc (congrArg (Value.int .i64) (show o.h = ((stN a xs).h) from by rw [stN_0 hE, hun])) (consc (congrArg (Value.int .i64) (show o.s = ((stN a xs).s) from by rw [stN_0 hE, hun])) rfl)))) (congrArg (Value.int .i64) (show 0 = (stE a xs) from by first | (rw [stE_1 (by assumption)]; done) | (rw [stE_3 hv hno]; done) | (rw [hE]; done)))

set_option maxRecDepth 100000 in
set_option maxHeartbeats 4000000 in
theorem NumericSettles_n {V : HV} {a : Nm} {x : Value} {xs : List Int} (hs : Ints .i64 V x xs) :
    FnC Try.prog 11 [(Value.agg #[(Value.int .i64 (a.l)), (Value.int .i64 (a.h)), (Value.int .i64 (a.s))]), x] V [] (fun v _ _ => v = (Value.bool true)) := by
  refine fn_intro (N := 34) Try.func11 (by kernel_rfl) rfl rfl rfl (Nat.le_of_ble_eq_true rfl) ?_
  intro w0 D
  have hbd := hs.bound
  refine vc_seq ?_
  refine vc_region ?_
  refine ops_box (v := (Value.agg #[(Value.int .i64 (a.l)), (Value.int .i64 (a.h)), (Value.int .i64 (a.s))])) (cs := [(Value.int .i64 (a.l)), (Value.int .i64 (a.h)), (Value.int .i64 (a.s))]) rfl rfl (fun b1 => ?_)
  refine oq (qv_as (Value.bool false) rfl) ?_
  refine ops_nil ?_
  refine vc_seq ?_
  refine vc_seq ?_
  refine vc_res (σ' := [(Arr 23 b1 [(Value.int .i64 (a.l)), (Value.int .i64 (a.h)), (Value.int .i64 (a.s))])]) rfl ?_
  refine vc_region ?_
  refine oq (qv_call (v := (Value.bool true)) (known_c) rfl rfl) ?_
  refine oq (qv_notc rfl) ?_
  refine ops_nil ?_
  refine vc_ff rfl ?_
  refine vc_skip ?_
  refine vc_seq ?_
  refine vc_seq ?_
  refine vc_region ?_
  refine oq (qv_mv x rfl) ?_
  refine oq (qv_lenI Try.underlying37 rfl hs) ?_
  refine oq (qv_gtr rfl rfl) ?_
  refine ops_nil ?_
  refine vc_if rfl (fun c1 => ?_) (fun c1 => ?_)
  ·
    refine vc_seq ?_
    refine vc_region ?_
    refine oq (qv_as (Value.bool true) rfl) ?_
    refine ops_nil ?_
    refine vc_ret ?_
    exact rq1 (Value.bool true) rfl rfl
  ·
    refine vc_skip ?_
    refine vc_seq ?_
    refine vc_region ?_
    refine oq (qv_ldm (vs := [(Value.int .i64 (a.l)), (Value.int .i64 (a.h)), (Value.int .i64 (a.s))]) Try.agg23 rfl (inOc (k := 0) rfl) rfl rfl) ?_
    refine oq (qv_mv x rfl) ?_
    refine oq (qv_call (v := (Value.tuple #[(Value.agg #[(Value.int .i64 ((stN a xs).l)), (Value.int .i64 ((stN a xs).h)), (Value.int .i64 ((stN a xs).s))]), (Value.int .i64 (stE a xs))])) (Settle_c (a := a) hs (by omega)) rfl rfl) ?_
    refine oq (qv_mv (Value.tuple #[(Value.agg #[(Value.int .i64 ((stN a xs).l)), (Value.int .i64 ((stN a xs).h)), (Value.int .i64 ((stN a xs).s))]), (Value.int .i64 (stE a xs))]) rfl) ?_
    refine oq (qv_ext (Value.agg #[(Value.int .i64 ((stN a xs).l)), (Value.int .i64 ((stN a xs).h)), (Value.int .i64 ((stN a xs).s))]) rfl rfl) ?_
    refine oq (qv_ext (Value.int .i64 (stE a xs)) rfl rfl) ?_
    refine ops_alloc Try.ti23 rfl (fun b2 => ?_)
    refine ops_stm (k := 1) (off := 0) (v := (Value.agg #[(Value.int .i64 ((stN a xs).l)), (Value.int .i64 ((stN a xs).h)), (Value.int .i64 ((stN a xs).s))])) (vs := [(Value.int .i64 ((stN a xs).l)), (Value.int .i64 ((stN a xs).h)), (Value.int .i64 ((stN a xs).s))]) (cs := [(Value.int .i64 0), (Value.int .i64 0), (Value.int .i64 0)]) (cs' := [(Value.int .i64 ((stN a xs).l)), (Value.int .i64 ((stN a xs).h)), (Value.int .i64 ((stN a xs).s))]) Try.size23 rfl rfl rfl rfl rfl rfl (Nat.le_of_ble_eq_true rfl) rfl ?_
    refine oq (qv_as (Value.int .i64 (stE a xs)) rfl) ?_
    refine ops_nil ?_
    refine vc_seq ?_
    refine vc_res (σ' := [(Arr 23 b1 [(Value.int .i64 (a.l)), (Value.int .i64 (a.h)), (Value.int .i64 (a.s))]), (Arr 23 b2 [(Value.int .i64 ((stN a xs).l)), (Value.int .i64 ((stN a xs).h)), (Value.int .i64 ((stN a xs).s))])]) rfl ?_
    refine vc_region ?_
    refine oq (qv_ldm (vs := [(Value.int .i64 (a.l)), (Value.int .i64 (a.h)), (Value.int .i64 (a.s))]) Try.agg23 rfl (inOc (k := 0) rfl) rfl rfl) ?_
    refine oq (qv_mv x rfl) ?_
    refine oq (qv_call (v := (Value.tuple #[(Value.agg #[(Value.int .i64 ((stN a xs).l)), (Value.int .i64 ((stN a xs).h)), (Value.int .i64 ((stN a xs).s))]), (Value.int .i64 (stE a xs))])) (rSettle_c (a := a) hs) rfl rfl) ?_
    refine oq (qv_mv (Value.tuple #[(Value.agg #[(Value.int .i64 ((stN a xs).l)), (Value.int .i64 ((stN a xs).h)), (Value.int .i64 ((stN a xs).s))]), (Value.int .i64 (stE a xs))]) rfl) ?_
    refine oq (qv_ext (Value.agg #[(Value.int .i64 ((stN a xs).l)), (Value.int .i64 ((stN a xs).h)), (Value.int .i64 ((stN a xs).s))]) rfl rfl) ?_
    refine oq (qv_ext (Value.int .i64 (stE a xs)) rfl rfl) ?_
    refine ops_alloc Try.ti23 rfl (fun b3 => ?_)
    refine ops_stm (k := 2) (off := 0) (v := (Value.agg #[(Value.int .i64 ((stN a xs).l)), (Value.int .i64 ((stN a xs).h)), (Value.int .i64 ((stN a xs).s))])) (vs := [(Value.int .i64 ((stN a xs).l)), (Value.int .i64 ((stN a xs).h)), (Value.int .i64 ((stN a xs).s))]) (cs := [(Value.int .i64 0), (Value.int .i64 0), (Value.int .i64 0)]) (cs' := [(Value.int .i64 ((stN a xs).l)), (Value.int .i64 ((stN a xs).h)), (Value.int .i64 ((stN a xs).s))]) Try.size23 rfl rfl rfl rfl rfl rfl (Nat.le_of_ble_eq_true rfl) rfl ?_
    refine oq (qv_as (Value.int .i64 (stE a xs)) rfl) ?_
    refine ops_nil ?_
    refine vc_seq ?_
    refine vc_res (σ' := [(Arr 23 b1 [(Value.int .i64 (a.l)), (Value.int .i64 (a.h)), (Value.int .i64 (a.s))]), (Arr 23 b2 [(Value.int .i64 ((stN a xs).l)), (Value.int .i64 ((stN a xs).h)), (Value.int .i64 ((stN a xs).s))]), (Arr 23 b3 [(Value.int .i64 ((stN a xs).l)), (Value.int .i64 ((stN a xs).h)), (Value.int .i64 ((stN a xs).s))])]) rfl ?_
    refine vc_region ?_
    refine oq (qv_ldm (vs := [(Value.int .i64 ((stN a xs).l)), (Value.int .i64 ((stN a xs).h)), (Value.int .i64 ((stN a xs).s))]) Try.agg23 rfl (inOc (k := 1) rfl) rfl rfl) ?_
    refine oq (qv_ldm (vs := [(Value.int .i64 ((stN a xs).l)), (Value.int .i64 ((stN a xs).h)), (Value.int .i64 ((stN a xs).s))]) Try.agg23 rfl (inOc (k := 2) rfl) rfl rfl) ?_
    refine oq (qv_eqls Try.eq23 [(stN a xs).l, (stN a xs).h, (stN a xs).s] [(stN a xs).l, (stN a xs).h, (stN a xs).s] rfl rfl rfl rfl rfl rfl eq3) ?_
    refine oq (qv_mv (Value.bool (decide (((stN a xs).l) = ((stN a xs).l) ∧ ((stN a xs).h) = ((stN a xs).h) ∧ ((stN a xs).s) = ((stN a xs).s)))) rfl) ?_
    by_cases g1 : ((stN a xs).l) = ((stN a xs).l) ∧ ((stN a xs).h) = ((stN a xs).h) ∧ ((stN a xs).s) = ((stN a xs).s)
    ·
      refine og (qv_mv (Value.int .i64 (stE a xs)) rfl) (want_t g1 rfl rfl rfl) ?_
      refine og (qv_mv (Value.int .i64 (stE a xs)) rfl) (want_t g1 rfl rfl rfl) ?_
      refine og (qv_eql rfl rfl) (want_t g1 rfl rfl rfl) ?_
      refine oq (qv_pick_t g1 rfl (rfl : ev _ _ = (Value.bool (decide ((stE a xs) = (stE a xs)))))) ?_
      refine oq (qv_as (Value.bool (decide ((stE a xs) = (stE a xs)))) rfl) ?_
      refine ops_nil ?_
      refine vc_ret ?_
      exact rq1 (Value.bool true) (congrArg Value.bool (decide_eq_true (show ((stE a xs) = (stE a xs)) from by rfl))) rfl
    ·
      exact absurd ⟨rfl, rfl, rfl⟩ g1

theorem NumericSettles_c {V : HV} {al ah ax : Int} {x : Value} {xs : List Int} (hs : Ints .i64 V x xs) : FnC Try.prog 11 [Value.agg #[.int .i64 al, .int .i64 ah, .int .i64 ax], x] V [] (fun v _ _ => v = .bool true) := NumericSettles_n (a := ⟨al, ah, ax⟩) hs
end Go.Proofs.Ytapkilaikcihgaa
