/- Walks of merge: what each function returns. Printed by a program out of notes. -/
import Derived.Test.YtmkbjhligjnagaaMg9
import Derived.Test.YtmkbjhligjnagaaMgY
import Derived.Test.YtmkbjhligjnagaaMjB
import Derived.Test.YtmkbjhligjnagaaMjC
import Derived.Test.YtmkbjhligjnagaaTy
namespace Go.Proofs.Ytmkbjhligjnagaa
open Go Go.Vc
open Classical
set_option maxRecDepth 100000
set_option maxRecDepth 100000 in
set_option maxHeartbeats 4000000 in
theorem Values_c {V : HV} {gv : Value} {G : List Int} (hG : Ints .i64 V gv G) :
    FnC Try.prog 50 [gv] V [] (fun v V' σ' => σ' = [] ∧ ∃ Bs, v = .func (.func 65) #[] #[.pointer (some ⟨Bs, 0, none⟩)] ∧ Cells V' Bs [gv]) := by
 refine fn_intro (N := 4) Try.func50 (by kernel_rfl) rfl rfl rfl (Nat.le_of_ble_eq_true rfl) ?_
 intro w0 D
 refine vc_seq ?_
 refine vc_region ?_
 refine ops_box (v := gv) (cs := [gv]) rfl (Sl.cells hG) (fun b1 => ?_)
 refine oq (qv_as Value.nilFunc rfl) ?_
 refine ops_nil ?_
 refine vc_seq ?_
 refine vc_res (σ' := [(Arr 30 b1 [gv])]) rfl ?_
 refine vc_region ?_
 refine oq (qv_func (cs := [(Value.pointer (some ⟨b1, 0, none⟩))]) rfl) ?_
 refine oq (qv_as (Value.func (.func 65) #[] #[(Value.pointer (some ⟨b1, 0, none⟩))]) rfl) ?_
 refine ops_nil ?_
 refine vc_freeze (b := b1) (o := .cells ([gv] : List Value).toArray 30 (0, 0)) (σr := []) (List.perm_middle (l₁ := []) (l₂ := [])) (fun Vf1 hVf1 hb1 => ?_)
 have hc1 : Cells Vf1 b1 [gv] := ⟨_, _, hb1⟩
 have hG := hG.mono hVf1
 refine vc_ret ?_
 refine rq1 (Value.func (.func 65) #[] #[(Value.pointer (some ⟨b1, 0, none⟩))]) rfl ?_
 exact ⟨rfl, _, rfl, hc1⟩

set_option maxRecDepth 100000 in
set_option maxHeartbeats 4000000 in
theorem Collect_c {V : HV} {gv : Value} {G : List Int} {Bs : Nat} (hc : Cells V Bs [gv]) (hG : Ints .i64 V gv G) (hlen : G.length ≤ 1000000) :
    FnC Try.prog 63 [(Value.func (.func 65) #[] #[(Value.pointer (some ⟨Bs, 0, none⟩))])] V [] (fun v _ σ' => σ' = [Gr 3 1 v G.length (G.map (Value.int .i64))]) := by
 refine fn_intro (N := 5) Try.func63 (by kernel_rfl) rfl rfl rfl (Nat.le_of_ble_eq_true rfl) ?_
 intro w0 D
 refine vc_seq ?_
 refine vc_region ?_
 refine oq (qv_as (Value.slice none 0 0) rfl) ?_
 refine ops_nil ?_
 refine vc_seq ?_
 refine vc_region ?_
 refine oq (qv_mv (Value.func (.func 65) #[] #[(Value.pointer (some ⟨Bs, 0, none⟩))]) rfl) ?_
 refine ops_call (σa := []) (σr := []) (App_c hc hG hlen) rfl rfl (.refl _) (fun r1 V1 sg1 hV1 hp1 => ?_)
 obtain ⟨hVV, rfl⟩ := hp1
 have hc := hc.mono hV1
 have hG := hG.mono hV1
 refine oq (qv_as r1 rfl) ?_
 refine ops_nil ?_
 refine vc_ret ?_
 refine rq1 r1 rfl ?_
 exact rfl

set_option maxRecDepth 100000 in
set_option maxHeartbeats 4000000 in
theorem Sorted_c {V : HV} {gv : Value} {G : List Int} {Bs : Nat} (hc : Cells V Bs [gv]) (hG : Ints .i64 V gv G) (hlen : G.length ≤ 1000000) :
    FnC Try.prog 49 [(Value.func (.func 65) #[] #[(Value.pointer (some ⟨Bs, 0, none⟩))])] V [] (fun v _ σ' => σ' = [Gr 3 1 v G.length ((srt G).map (Value.int .i64))]) := by
 refine fn_intro (N := 9) Try.func49 (by kernel_rfl) rfl rfl rfl (Nat.le_of_ble_eq_true rfl) ?_
 intro w0 D
 refine vc_seq ?_
 refine vc_region ?_
 refine oq (qv_as (Value.slice none 0 0) rfl) ?_
 refine ops_nil ?_
 refine vc_seq ?_
 refine vc_region ?_
 refine oq (qv_mv (Value.func (.func 65) #[] #[(Value.pointer (some ⟨Bs, 0, none⟩))]) rfl) ?_
 refine ops_call (σa := []) (σr := []) (Collect_c hc hG hlen) rfl rfl (.refl _) (fun r1 V1 sg1 hV1 hp1 => ?_)
 obtain rfl := hp1
 have hc := hc.mono hV1
 have hG := hG.mono hV1
 refine oq (qv_as r1 rfl) ?_
 refine ops_nil ?_
 refine vc_seq ?_
 refine vc_res (σ' := [(Gr 3 1 r1 G.length ((G.map (Value.int .i64))))]) rfl ?_
 refine vc_region ?_
 refine oq (qv_mv r1 rfl) ?_
 refine ops_call (σa := [(Gr 3 1 r1 G.length ((G.map (Value.int .i64))))]) (σr := []) (Sort_c (zs := G) (by omega)) rfl rfl (.refl _) (fun r2 V2 sg2 hV2 hp2 => ?_)
 obtain ⟨rfl, hVV, rfl⟩ := hp2
 have hc := hc.mono hV2
 have hG := hG.mono hV2
 refine ops_nil ?_
 refine vc_seq ?_
 refine vc_res (σ' := [(Gr 3 1 r1 G.length (((srt G).map (Value.int .i64))))]) rfl ?_
 refine vc_region ?_
 refine oq (qv_mv r1 rfl) ?_
 refine oq (qv_as r1 rfl) ?_
 refine ops_nil ?_
 refine vc_ret ?_
 refine rq1 r1 rfl ?_
 exact rfl

set_option maxRecDepth 100000 in
set_option maxHeartbeats 4000000 in
theorem Kinds_c {V : HV} {gv : Value} {G : List Int} (hG : Ints .i64 V gv G) (hlen : G.length ≤ 1000000) :
    FnC Try.prog 26 [gv] V [] (fun v _ _ => v = (.int .i64 (kindsN G G.length))) := by
 refine fn_intro (N := 10) Try.func26 (by kernel_rfl) rfl rfl rfl (Nat.le_of_ble_eq_true rfl) ?_
 intro w0 D
 refine vc_seq ?_
 refine vc_region ?_
 refine oq (qv_as (Value.int .i64 0) rfl) ?_
 refine ops_nil ?_
 refine vc_seq ?_
 refine vc_region ?_
 refine oq (qv_mv gv rfl) ?_
 refine ops_call (σa := []) (σr := []) (Values_c hG) rfl rfl (.refl _) (fun r1 V1 sg1 hV1 hp1 => ?_)
 obtain ⟨rfl, Bs, rfl, hc⟩ := hp1
 have hG := hG.mono hV1
 refine ops_call (σa := []) (σr := []) (Sorted_c hc hG hlen) rfl rfl (.refl _) (fun r2 V2 sg2 hV2 hp2 => ?_)
 obtain rfl := hp2
 have hG := hG.mono hV2
 have hc := hc.mono hV2
 refine oq (qv_as r2 rfl) ?_
 refine ops_nil ?_
 refine vc_seq ?_
 refine vc_res (σ' := [(Gr 3 1 r2 G.length (((srt G).map (Value.int .i64))))]) rfl ?_
 refine vc_region ?_
 refine oq (qv_mv r2 rfl) ?_
 refine ops_call (σa := [(Gr 3 1 r2 G.length (((srt G).map (Value.int .i64))))]) (σr := []) (by have h := Compact_c (V := V2) (v := r2) (zs := srt G) (by rw [srt_len]; omega); rw [srt_len] at h; exact h) rfl rfl (.refl _) (fun r3 V3 sg3 hV3 hp3 => ?_)
 obtain ⟨hVV, rfl⟩ := hp3
 have hG := hG.mono hV3
 have hc := hc.mono hV3
 refine oq (qv_lenGi Try.underlying29 rfl (inGi (k := 0) rfl)) ?_
 refine oq (qv_as (.int .i64 ((((Lib.compact (srt G))).length : Int))) rfl) ?_
 refine ops_nil ?_
 refine vc_drop [] [(Gr 3 1 r3 ((Lib.compact (srt G)).length) (((Lib.compact (srt G)).map (Value.int .i64))))] (.refl _) ?_
 refine vc_ret ?_
 exact rq1 (.int .i64 (kindsN G G.length)) (congrArg (Value.int .i64) (show ((((Lib.compact (srt G))).length : Int)) = (kindsN G G.length) from by rw [kinds_len])) rfl

set_option maxRecDepth 100000 in
set_option maxHeartbeats 4000000 in
theorem MergeCosts_c {V : HV} {l : Value} {rv : List Value} {L : List (List Int)} {gv : Value} {G : List Int} (hl : Mat .i64 V l rv L) (hG : Ints .i64 V gv G) :
    FnC Try.prog 8 [l, gv] V [] (fun v _ _ => v = (Value.bool true)) := by
 refine fn_intro (N := 50) Try.func8 (by kernel_rfl) rfl rfl rfl (Nat.le_of_ble_eq_true rfl) ?_
 intro w0 D
 refine vc_seq ?_
 refine vc_region ?_
 refine oq (qv_as (Value.bool false) rfl) ?_
 refine ops_nil ?_
 refine vc_seq ?_
 refine vc_seq ?_
 refine vc_region ?_
 refine oq (qv_call (v := (Value.bool true)) (known_c) rfl rfl) ?_
 refine oq (qv_notc rfl) ?_
 refine ops_nil ?_
 refine vc_ff rfl ?_
 refine vc_skip ?_
 refine vc_seq ?_
 refine vc_seq ?_
 refine vc_region ?_
 refine oq (qv_mv l rfl) ?_
 refine oq (qv_call (v := (.bool (decide (Few L 40)))) (few_c hl) rfl rfl) ?_
 refine oq (qv_not rfl) ?_
 refine oq (qv_mv (.bool (decide (¬ (Few L 40)))) rfl) ?_
 by_cases g1 : ¬ (Few L 40)
 ·
  refine os (want_fn g1 rfl rfl rfl) ?_
  refine os (want_fn g1 rfl rfl rfl) ?_
  refine os (want_fn g1 rfl rfl rfl) ?_
  refine oq (qv_pick_t g1 rfl (rfl : ev _ _ = (Value.bool true))) ?_
  refine ops_nil ?_
  refine vc_tt rfl ?_
  refine vc_seq ?_
  refine vc_region ?_
  refine oq (qv_as (Value.bool true) rfl) ?_
  refine ops_nil ?_
  refine vc_ret ?_
  exact rq1 (Value.bool true) rfl rfl
 ·
  refine og (qv_mv gv rfl) (want_f g1 rfl rfl rfl) ?_
  refine og (qv_lenI Try.underlying30 rfl hG) (want_f g1 rfl rfl rfl) ?_
  refine og (qv_gtr rfl rfl) (want_f g1 rfl rfl rfl) ?_
  refine oq (qv_pick_f g1 rfl (rfl : ev _ _ = (.bool (decide (60 < ((G.length : Int))))))) ?_
  refine ops_nil ?_
  refine vc_if rfl (fun c1 => ?_) (fun c1 => ?_)
  ·
   refine vc_seq ?_
   refine vc_region ?_
   refine oq (qv_as (Value.bool true) rfl) ?_
   refine ops_nil ?_
   refine vc_ret ?_
   exact rq1 (Value.bool true) rfl rfl
  ·
   refine vc_skip ?_
   refine vc_seq ?_
   refine vc_region ?_
   refine oq (qv_mv l rfl) ?_
   refine oq (qv_mv gv rfl) ?_
   refine oq (qv_call (v := (.tuple #[(.int .i64 (cN L G)), (.int .i64 (cE L G))])) (Cost_c hl hG) rfl rfl) ?_
   refine oq (qv_mv (.tuple #[(.int .i64 (cN L G)), (.int .i64 (cE L G))]) rfl) ?_
   refine oq (qv_ext (.int .i64 (cN L G)) rfl rfl) ?_
   refine oq (qv_ext (.int .i64 (cE L G)) rfl rfl) ?_
   refine oq (qv_as (.int .i64 (cN L G)) rfl) ?_
   refine oq (qv_as (.int .i64 (cE L G)) rfl) ?_
   refine ops_nil ?_
   refine vc_seq ?_
   refine vc_region ?_
   refine oq (qv_mv l rfl) ?_
   refine oq (qv_call (v := (.int .i64 (chk L))) (check_c hl) rfl rfl) ?_
   refine oq (qv_as (.int .i64 (chk L)) rfl) ?_
   refine ops_nil ?_
   refine vc_seq ?_
   refine vc_region ?_
   refine oq (qv_as (Value.int .i64 0) rfl) ?_
   refine ops_nil ?_
   refine vc_seq ?_
   refine vc_seq ?_
   refine vc_region ?_
   refine oq (qv_mv (.int .i64 (chk L)) rfl) ?_
   refine oq (qv_eql rfl rfl) ?_
   refine ops_nil ?_
   refine vc_if rfl (fun c2 => ?_) (fun c2 => ?_)
   ·
    refine vc_region ?_
    refine oq (qv_mv l rfl) ?_
    refine oq (qv_mv gv rfl) ?_
    refine oq (qv_call (v := (.tuple #[(.int .i64 (gN L G)), (.int .i64 (gE L G))])) (lcost_c hl hG (good_of_chk (by omega))) rfl rfl) ?_
    refine oq (qv_mv (.tuple #[(.int .i64 (gN L G)), (.int .i64 (gE L G))]) rfl) ?_
    refine oq (qv_ext (.int .i64 (gN L G)) rfl rfl) ?_
    refine oq (qv_ext (.int .i64 (gE L G)) rfl rfl) ?_
    refine oq (qv_as (.int .i64 (gN L G)) rfl) ?_
    refine oq (qv_as (.int .i64 (gE L G)) rfl) ?_
    refine ops_nil ?_
    refine vc_seq ?_
    refine vc_region ?_
    refine oq (qv_mv (.int .i64 (cN L G)) rfl) ?_
    refine oq (qv_mv (.int .i64 (gN L G)) rfl) ?_
    refine oq (qv_eql rfl rfl) ?_
    refine oq (qv_mv (.bool (decide ((cN L G) = (gN L G)))) rfl) ?_
    by_cases g2 : (cN L G) = (gN L G)
    ·
     refine og (qv_mv (.int .i64 (cE L G)) rfl) (want_t g2 rfl rfl rfl) ?_
     refine og (qv_mv (.int .i64 (gE L G)) rfl) (want_t g2 rfl rfl rfl) ?_
     refine og (qv_eql rfl rfl) (want_t g2 rfl rfl rfl) ?_
     refine oq (qv_pick_t g2 rfl (rfl : ev _ _ = (.bool (decide ((cE L G) = (gE L G)))))) ?_
     refine oq (qv_mv (.bool (decide ((cE L G) = (gE L G)))) rfl) ?_
     by_cases g3 : (cE L G) = (gE L G)
     ·
      refine og (qv_mv gv rfl) (want_t g3 rfl rfl rfl) ?_
      refine og (qv_call (v := (.int .i64 (kindsN G G.length))) (Kinds_c hG (by omega)) rfl rfl) (want_t g3 rfl rfl rfl) ?_
      refine og (qv_mv gv rfl) (want_t g3 rfl rfl rfl) ?_
      refine og (qv_call (v := (.int .i64 (kindsN G G.length))) (kinds_c hG) rfl rfl) (want_t g3 rfl rfl rfl) ?_
      refine og (qv_eql rfl rfl) (want_t g3 rfl rfl rfl) ?_
      refine oq (qv_pick_t g3 rfl (rfl : ev _ _ = (.bool (decide ((kindsN G G.length) = (kindsN G G.length)))))) ?_
      refine oq (qv_as (.bool (decide ((kindsN G G.length) = (kindsN G G.length)))) rfl) ?_
      refine ops_nil ?_
      refine vc_ret ?_
      exact rq1 (Value.bool true) (congrArg Value.bool (decide_eq_true (show ((kindsN G G.length) = (kindsN G G.length)) from by rfl))) rfl
     ·
      exact absurd (cE_g (by omega)) g3
    ·
     exact absurd (cN_g (by omega)) g2
   ·
    refine vc_skip ?_
    refine vc_seq ?_
    refine vc_region ?_
    refine oq (qv_mv (.int .i64 (cN L G)) rfl) ?_
    refine oq (qv_mv (Value.int .i64 0) rfl) ?_
    refine oq (qv_eql rfl rfl) ?_
    refine oq (qv_mv (.bool (decide ((cN L G) = 0))) rfl) ?_
    by_cases g4 : (cN L G) = 0
    ·
     refine og (qv_mv (.int .i64 (cE L G)) rfl) (want_t g4 rfl rfl rfl) ?_
     refine og (qv_mv (.int .i64 (chk L)) rfl) (want_t g4 rfl rfl rfl) ?_
     refine og (qv_eql rfl rfl) (want_t g4 rfl rfl rfl) ?_
     refine oq (qv_pick_t g4 rfl (rfl : ev _ _ = (.bool (decide ((cE L G) = (chk L)))))) ?_
     refine oq (qv_mv (.bool (decide ((cE L G) = (chk L)))) rfl) ?_
     by_cases g5 : (cE L G) = (chk L)
     ·
      refine og (qv_mv gv rfl) (want_t g5 rfl rfl rfl) ?_
      refine og (qv_call (v := (.int .i64 (kindsN G G.length))) (Kinds_c hG (by omega)) rfl rfl) (want_t g5 rfl rfl rfl) ?_
      refine og (qv_mv gv rfl) (want_t g5 rfl rfl rfl) ?_
      refine og (qv_call (v := (.int .i64 (kindsN G G.length))) (kinds_c hG) rfl rfl) (want_t g5 rfl rfl rfl) ?_
      refine og (qv_eql rfl rfl) (want_t g5 rfl rfl rfl) ?_
      refine oq (qv_pick_t g5 rfl (rfl : ev _ _ = (.bool (decide ((kindsN G G.length) = (kindsN G G.length)))))) ?_
      refine oq (qv_as (.bool (decide ((kindsN G G.length) = (kindsN G G.length)))) rfl) ?_
      refine ops_nil ?_
      refine vc_ret ?_
      exact rq1 (Value.bool true) (congrArg Value.bool (decide_eq_true (show ((kindsN G G.length) = (kindsN G G.length)) from by rfl))) rfl
     ·
      exact absurd (cE_chk (by omega)) g5
    ·
     exact absurd (cN_bad (by rw [cE_chk (by omega)]; omega)) g4

end Go.Proofs.Ytmkbjhligjnagaa
