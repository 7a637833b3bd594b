import Derived.Test.YtkmhjcjpohpiaaaGreatQb
import Derived.Test.YtkmhjcjpohpiaaaGreatWo
import Derived.Test.YtkmhjcjpohpiaaaGreatMu
/- Walks of mtbdd: what each function returns. Printed by a program out of notes. -/
namespace Go.Proofs.YtkmhjcjpohpiaaaGreat
open Go.Vc
open Classical

set_option maxRecDepth 100000 in
set_option maxHeartbeats 4000000 in
theorem histogram_c {V : HV} {t : List Int} {tv : Value} (ht : Ints .i64 V tv t) (hl : t.length ≤ 4096) :
    FnC Tryz.prog 16 [tv] V [] (fun v V' σ' => σ' = [] ∧ P2s V' v (hgS t)) := by
 refine fn_intro (N := 48) Tryz.func16 (by kernel_rfl) rfl rfl rfl (Nat.le_of_ble_eq_true rfl) ?_
 intro w0 D
 have hsl := srt_len t
 have hss := srt_sorted t
 refine vc_seq ?_
 refine vc_region ?_
 refine oq (qv_as (Value.slice none 0 0) rfl) ?_
 refine ops_nil ?_
 refine vc_seq ?_
 refine vc_nil 42 2 ?_
 refine vc_region ?_
 refine oq (qv_as (Value.slice none 0 0) rfl) ?_
 refine ops_nil ?_
 refine vc_seq ?_
 refine vc_res (σ' := [(Gr 42 2 ((Value.slice none 0 0)) 0 ([]))]) rfl ?_
 refine vc_region ?_
 refine oq (qv_mv tv rfl) ?_
 refine ops_call (σa := []) (σr := [(Gr 42 2 ((Value.slice none 0 0)) 0 ([]))]) (Clone_c ht (by omega)) rfl rfl (.refl _) (fun r1 V1 sg1 hV1 hp1 => ?_)
 obtain rfl := hp1
 have ht := ht.mono hV1
 refine oq (qv_as r1 rfl) ?_
 refine ops_nil ?_
 refine vc_seq ?_
 refine vc_res (σ' := [(Gr 3 1 r1 t.length ((t.map (Value.int .i64)))), (Gr 42 2 ((Value.slice none 0 0)) 0 ([]))]) rfl ?_
 refine vc_region ?_
 refine oq (qv_mv r1 rfl) ?_
 refine ops_call (σa := [(Gr 3 1 r1 t.length ((t.map (Value.int .i64))))]) (σr := [(Gr 42 2 ((Value.slice none 0 0)) 0 ([]))]) (Sort_c (zs := t) (by omega)) rfl rfl (.refl _) (fun r2 V2 sg2 hV2 hp2 => ?_)
 obtain ⟨rfl, hVV, rfl⟩ := hp2
 have ht := ht.mono hV2
 refine ops_nil ?_
 refine vc_seq ?_
 refine vc_seq ?_
 refine vc_res (σ' := [(Gr 3 1 r1 t.length (((srt t).map (Value.int .i64)))), (Gr 42 2 ((Value.slice none 0 0)) 0 ([]))]) rfl ?_
 refine vc_region ?_
 refine oq (qv_mv r1 rfl) ?_
 refine oq (qv_lenGi Tryz.underlying22 rfl (inGi (k := 0) rfl)) ?_
 refine oq (qv_mv (Value.int .i64 0) rfl) ?_
 refine ops_nil ?_
 refine vc_block ?_
 refine vc_loop (α := Int × Value × List P2) (fun (xx : Int × Value × List P2) => [(0, tv), (2, (Value.slice none 0 0)), (4, r1), (12, r1), (13, (.int .i64 ((((srt t)).length : Int)))), (3, xx.2.1), (14, (Value.int .i64 xx.1))]) (fun (xx : Int × Value × List P2) V' σ' => V2 = V' ∧ [(Gr 3 1 r1 t.length (((srt t).map (Value.int .i64)))), (Gr 42 2 xx.2.1 xx.2.2.length ((p2s xx.2.2)))] = σ' ∧ 0 ≤ xx.1 ∧ xx.1 ≤ t.length ∧ xx.2.2.length ≤ xx.1 ∧ HgI (srt t) xx.1 xx.2.2) (fun (xx : Int × Value × List P2) => (t.length - xx.1).toNat) (0, (Value.slice none 0 0), []) ?_ ?_ ?_
 · exact ⟨rfl, rfl, rfl, rfl, rfl, (by first | rfl | (first | omega | simp)), rfl, trivial⟩
 · exact (show V2 = V2 ∧ [(Gr 3 1 r1 t.length (((srt t).map (Value.int .i64)))), (Gr 42 2 ((Value.slice none 0 0) : Value) ([] : List P2).length ((p2s ([] : List P2))))] = [(Gr 3 1 r1 t.length (((srt t).map (Value.int .i64)))), (Gr 42 2 ((Value.slice none 0 0)) 0 ([]))] ∧ 0 ≤ (0 : Int) ∧ (0 : Int) ≤ t.length ∧ ([] : List P2).length ≤ (0 : Int) ∧ HgI (srt t) (0 : Int) ([] : List P2) from ⟨rfl, (show [(Gr 3 1 r1 t.length (((srt t).map (Value.int .i64)))), (Gr 42 2 ((Value.slice none 0 0)) ([] : List P2).length ((p2s ([]))))] = [(Gr 3 1 r1 t.length (((srt t).map (Value.int .i64)))), (Gr 42 2 ((Value.slice none 0 0)) 0 ([]))] from by rfl), by omega, by omega, by show (0 : Int) ≤ 0; omega, hgI_0 _⟩)
 rintro ⟨i, ov, O⟩ e1 V0l σ0l hI0
 obtain ⟨rfl, rfl, i1, i2, i3, hH⟩ : V2 = V0l ∧ [(Gr 3 1 r1 t.length (((srt t).map (Value.int .i64)))), (Gr 42 2 ov O.length ((p2s O)))] = σ0l ∧ 0 ≤ i ∧ i ≤ t.length ∧ O.length ≤ i ∧ HgI (srt t) i O := hI0
 change VC _ _ _ _ _ _ (upds 48 [(0, tv), (2, (Value.slice none 0 0)), (4, r1), (12, r1), (13, (.int .i64 ((((srt t)).length : Int)))), (3, ov), (14, (Value.int .i64 i))] e1) _ _
 refine vc_seq ?_
 refine vc_res (σ' := [(Gr 3 1 r1 t.length (((srt t).map (Value.int .i64)))), (Gr 42 2 ov O.length ((p2s O)))]) rfl ?_
 refine vc_region ?_
 refine oq (qv_lss rfl rfl) ?_
 refine ops_nil ?_
 refine vc_seq ?_
 refine vc_if rfl (fun c1 => ?_) (fun c1 => ?_)
 ·
  refine vc_skip ?_
  refine vc_seq ?_
  refine vc_block ?_
  refine vc_seq ?_
  refine vc_region ?_
  refine oq (qv_iai (v := r1) (i := i) Tryz.underlying22 Tryz.size3 rfl (inGi (k := 0) rfl) rfl (by omega) (by omega)) ?_
  refine oq (qv_ldi (v := r1) (i := i) Tryz.plain3 rfl (inGi (k := 0) rfl) (by omega) (by omega)) ?_
  refine oq (qv_as (.int .i64 (gi ((srt t)) (i))) rfl) ?_
  refine ops_nil ?_
  refine vc_seq ?_
  refine vc_seq ?_
  refine vc_region ?_
  refine oq (qv_mv ov rfl) ?_
  refine oq (qv_lenGr (k := 1) Tryz.underlying36 rfl rfl) ?_
  refine oq (qv_as (.int .i64 (((O.length : Nat) : Int))) rfl) ?_
  refine ops_nil ?_
  refine vc_seq ?_
  refine vc_region ?_
  refine oq (qv_mv (.int .i64 (((O.length : Nat) : Int))) rfl) ?_
  refine oq (qv_gtr rfl rfl) ?_
  refine oq (qv_mv (.bool (decide (0 < (((O.length : Nat) : Int))))) rfl) ?_
  by_cases g1 : 0 < (((O.length : Nat) : Int))
  ·
   refine og (qv_mv ov rfl) (want_t g1 rfl rfl rfl) ?_
   refine og (qv_mv (.int .i64 (((O.length : Nat) : Int))) rfl) (want_t g1 rfl rfl rfl) ?_
   refine og (qv_sub rfl rfl (by omega)) (want_t g1 rfl rfl rfl) ?_
   refine og (qv_iasG (k := 1) (v := ov) (i := (((O.length : Nat) : Int)) - 1) Tryz.underlying36 Tryz.size42 rfl rfl rfl (by omega) (by omega)) (want_t g1 rfl rfl rfl) ?_
   refine og (qv_fasG (k := 1) Tryz.field42_0 rfl rfl (by omega) (by omega)) (want_t g1 rfl rfl rfl) ?_
   refine og (qv_ldfG (k := 1) (u := (.int .i64 ((p2 O ((((O.length : Nat) : Int)) - 1)).a))) (v := ov) (i := (((O.length : Nat) : Int)) - 1) Tryz.plain3 rfl rfl (by omega) (by omega) (by omega) (p2s_el (o := 0) (by omega) (by omega) (by omega) rfl)) (want_t g1 rfl rfl rfl) ?_
   refine og (qv_mv (.int .i64 (gi ((srt t)) (i))) rfl) (want_t g1 rfl rfl rfl) ?_
   refine og (qv_eql rfl rfl) (want_t g1 rfl rfl rfl) ?_
   refine oq (qv_pick_t g1 rfl (rfl : ev _ _ = (.bool (decide (((p2 O ((((O.length : Nat) : Int)) - 1)).a) = (gi ((srt t)) (i))))))) ?_
   refine ops_nil ?_
   refine vc_if rfl (fun c2 => ?_) (fun c2 => ?_)
   ·
    refine vc_seq ?_
    have hb9 := hgI_bd hH (i := (O.length : Int) - 1) (by omega) (by omega)
    refine vc_region ?_
    refine oq (qv_mv ov rfl) ?_
    refine oq (qv_mv (.int .i64 (((O.length : Nat) : Int))) rfl) ?_
    refine oq (qv_sub rfl rfl (by omega)) ?_
    refine oq (qv_iasG (k := 1) (v := ov) (i := (((O.length : Nat) : Int)) - 1) Tryz.underlying36 Tryz.size42 rfl rfl rfl (by omega) (by omega)) ?_
    refine oq (qv_fasG (k := 1) Tryz.field42_1 rfl rfl (by omega) (by omega)) ?_
    refine oq (qv_ldfG (k := 1) (u := (.int .i64 ((p2 O ((((O.length : Nat) : Int)) - 1)).b))) (v := ov) (i := (((O.length : Nat) : Int)) - 1) Tryz.plain3 rfl rfl (by omega) (by omega) (by omega) (p2s_el (o := 1) (by omega) (by omega) (by omega) rfl)) ?_
    refine oq (qv_add rfl rfl (by omega)) ?_
    refine oq (qv_iasG (k := 1) (v := ov) (i := (((O.length : Nat) : Int)) - 1) Tryz.underlying36 Tryz.size42 rfl rfl rfl (by omega) (by omega)) ?_
    refine oq (qv_fasG (k := 1) Tryz.field42_1 rfl rfl (by omega) (by omega)) ?_
    refine ops_stgf (k := 1) (v := ov) (i := (((O.length : Nat) : Int)) - 1) (o := 1) (u := (.int .i64 (((p2 O ((((O.length : Nat) : Int)) - 1)).b) + 1))) (xs' := (p2s (O.set ((((O.length : Nat) : Int)) - 1).toNat ⟨(p2 O ((((O.length : Nat) : Int)) - 1)).a, ((p2 O ((((O.length : Nat) : Int)) - 1)).b) + 1⟩))) Tryz.size3 rfl rfl rfl rfl (by omega) (by omega) (Nat.le_of_ble_eq_true rfl) (p2s_setb (by omega) (by omega)) ?_
    refine ops_nil ?_
    refine vc_exit ?_
    refine blockQ_hit ?_
    refine vc_res (σ' := [(Gr 3 1 r1 t.length (((srt t).map (Value.int .i64)))), (Gr 42 2 ov O.length ((p2s (O.set ((((O.length : Nat) : Int)) - 1).toNat ⟨(p2 O ((((O.length : Nat) : Int)) - 1)).a, ((p2 O ((((O.length : Nat) : Int)) - 1)).b) + 1⟩))))]) rfl ?_
    refine vc_region ?_
    refine oq (qv_add rfl rfl (by omega)) ?_
    refine oq (qv_mv (.int .i64 (i + 1)) rfl) ?_
    refine ops_nil ?_
    refine ⟨(i + 1, ov, (O.set ((((O.length : Nat) : Int)) - 1).toNat ⟨(p2 O ((((O.length : Nat) : Int)) - 1)).a, ((p2 O ((((O.length : Nat) : Int)) - 1)).b) + 1⟩)), ⟨rfl, rfl, rfl, rfl, rfl, rfl, (congrArg (Value.int .i64) (show (i + 1) = ((i + 1)) from by omega)), trivial⟩, (show V2 = V2 ∧ [(Gr 3 1 r1 t.length (((srt t).map (Value.int .i64)))), (Gr 42 2 ov ((O.set ((((O.length : Nat) : Int)) - 1).toNat ⟨(p2 O ((((O.length : Nat) : Int)) - 1)).a, ((p2 O ((((O.length : Nat) : Int)) - 1)).b) + 1⟩) : List P2).length ((p2s ((O.set ((((O.length : Nat) : Int)) - 1).toNat ⟨(p2 O ((((O.length : Nat) : Int)) - 1)).a, ((p2 O ((((O.length : Nat) : Int)) - 1)).b) + 1⟩) : List P2))))] = [(Gr 3 1 r1 t.length (((srt t).map (Value.int .i64)))), (Gr 42 2 ov O.length ((p2s (O.set ((((O.length : Nat) : Int)) - 1).toNat ⟨(p2 O ((((O.length : Nat) : Int)) - 1)).a, ((p2 O ((((O.length : Nat) : Int)) - 1)).b) + 1⟩))))] ∧ 0 ≤ (i + 1 : Int) ∧ (i + 1 : Int) ≤ t.length ∧ ((O.set ((((O.length : Nat) : Int)) - 1).toNat ⟨(p2 O ((((O.length : Nat) : Int)) - 1)).a, ((p2 O ((((O.length : Nat) : Int)) - 1)).b) + 1⟩) : List P2).length ≤ (i + 1 : Int) ∧ HgI (srt t) (i + 1 : Int) ((O.set ((((O.length : Nat) : Int)) - 1).toNat ⟨(p2 O ((((O.length : Nat) : Int)) - 1)).a, ((p2 O ((((O.length : Nat) : Int)) - 1)).b) + 1⟩) : List P2) from ⟨rfl, (show [(Gr 3 1 r1 t.length (((srt t).map (Value.int .i64)))), (Gr 42 2 ov ((O.set ((((O.length : Nat) : Int)) - 1).toNat ⟨(p2 O ((((O.length : Nat) : Int)) - 1)).a, ((p2 O ((((O.length : Nat) : Int)) - 1)).b) + 1⟩) : List P2).length ((p2s ((O.set ((((O.length : Nat) : Int)) - 1).toNat ⟨(p2 O ((((O.length : Nat) : Int)) - 1)).a, ((p2 O ((((O.length : Nat) : Int)) - 1)).b) + 1⟩)))))] = [(Gr 3 1 r1 t.length (((srt t).map (Value.int .i64)))), (Gr 42 2 ov O.length ((p2s (O.set ((((O.length : Nat) : Int)) - 1).toNat ⟨(p2 O ((((O.length : Nat) : Int)) - 1)).a, ((p2 O ((((O.length : Nat) : Int)) - 1)).b) + 1⟩))))] from by first | rw [List.length_set] | rw [List.length_append, p2s_snoc]; rfl), by omega, by omega, by rw [List.length_set]; omega, hgI_same hH hss (by omega) (by omega) (by omega) (by assumption)⟩), show (t.length - (i + 1)).toNat < (t.length - i).toNat from by omega⟩
   ·
    refine vc_skip ?_
    refine vc_region ?_
    refine oq (qv_mv ov rfl) ?_
    refine oq (qv_mv (.int .i64 (gi ((srt t)) (i))) rfl) ?_
    refine oq (qv_build (out := [(.int .i64 (gi ((srt t)) (i))), (Value.int .i64 1)]) Tryz.build42 [(0, [(.int .i64 (gi ((srt t)) (i)))]), (1, [(Value.int .i64 1)])] rfl rfl) ?_
    refine ops_lit (n := 1) (s := 2) (cs := [(.int .i64 (gi ((srt t)) (i))), (Value.int .i64 1)]) Tryz.underlying36 Tryz.ti42 (Nat.le_of_ble_eq_true rfl) rfl rfl rfl (Nat.le_of_ble_eq_true rfl) rfl (fun b1 => ?_)
    refine ops_append (k := 1) (n := O.length) (s := 2) (m := 1) (v := ov) (xs := (p2s O)) (news := [(.int .i64 (gi ((srt t)) (i))), (Value.int .i64 1)]) Tryz.underlying36 Tryz.ti42 rfl (Nat.le_of_ble_eq_true rfl) rfl rfl rfl rfl (news_own (j := 2) rfl) (by simp [Value.oneCell']) (by omega) (by simp only [maxLen]; omega) (fun v1 hn1 => ?_)
    refine oq (qv_as v1 rfl) ?_
    refine ops_nil ?_
    refine vc_res (σ' := [(Gr 3 1 r1 t.length (((srt t).map (Value.int .i64)))), (Gr 42 2 v1 ((O.length + 1)) (((p2s O) ++ [(.int .i64 (gi ((srt t)) (i))), (Value.int .i64 1)]))), (Arr 42 b1 [(.int .i64 (gi ((srt t)) (i))), (Value.int .i64 1)])]) rfl ?_
    refine vc_drop [(Gr 3 1 r1 t.length (((srt t).map (Value.int .i64)))), (Gr 42 2 v1 ((O.length + 1)) (((p2s O) ++ [(Value.int .i64 (gi ((srt t)) (i))), (Value.int .i64 1)])))] [(Arr 42 b1 [(Value.int .i64 (gi ((srt t)) (i))), (Value.int .i64 1)])] ((List.perm_middle (l₁ := [(Gr 3 1 r1 t.length (((srt t).map (Value.int .i64)))), (Gr 42 2 v1 ((O.length + 1)) (((p2s O) ++ [(Value.int .i64 (gi ((srt t)) (i))), (Value.int .i64 1)])))]) (l₂ := [])).trans (List.perm_append_comm (l₁ := [(Arr 42 b1 [(Value.int .i64 (gi ((srt t)) (i))), (Value.int .i64 1)])]))) ?_
    refine vc_region ?_
    refine oq (qv_add rfl rfl (by omega)) ?_
    refine oq (qv_mv (.int .i64 (i + 1)) rfl) ?_
    refine ops_nil ?_
    refine ⟨(i + 1, v1, (O ++ [⟨gi (srt t) i, 1⟩])), ⟨rfl, rfl, rfl, rfl, rfl, rfl, (congrArg (Value.int .i64) (show (i + 1) = ((i + 1)) from by omega)), trivial⟩, (show V2 = V2 ∧ [(Gr 3 1 r1 t.length (((srt t).map (Value.int .i64)))), (Gr 42 2 v1 ((O ++ [⟨gi (srt t) i, 1⟩]) : List P2).length ((p2s ((O ++ [⟨gi (srt t) i, 1⟩]) : List P2))))] = [(Gr 3 1 r1 t.length (((srt t).map (Value.int .i64)))), (Gr 42 2 v1 ((O.length + 1)) (((p2s O) ++ [(.int .i64 (gi ((srt t)) (i))), (Value.int .i64 1)])))] ∧ 0 ≤ (i + 1 : Int) ∧ (i + 1 : Int) ≤ t.length ∧ ((O ++ [⟨gi (srt t) i, 1⟩]) : List P2).length ≤ (i + 1 : Int) ∧ HgI (srt t) (i + 1 : Int) ((O ++ [⟨gi (srt t) i, 1⟩]) : List P2) from ⟨rfl, (show [(Gr 3 1 r1 t.length (((srt t).map (Value.int .i64)))), (Gr 42 2 v1 ((O ++ [⟨gi (srt t) i, 1⟩]) : List P2).length ((p2s ((O ++ [⟨gi (srt t) i, 1⟩])))))] = [(Gr 3 1 r1 t.length (((srt t).map (Value.int .i64)))), (Gr 42 2 v1 ((O.length + 1)) (((p2s O) ++ [(.int .i64 (gi ((srt t)) (i))), (Value.int .i64 1)])))] from by first | rw [List.length_set] | rw [List.length_append, p2s_snoc]; rfl), by omega, by omega, by rw [List.length_append, List.length_singleton]; omega, hgI_new hH hss (by omega) (by omega) (fun q => by first | (have := q.1; omega) | exact absurd q.2 (by assumption))⟩), show (t.length - (i + 1)).toNat < (t.length - i).toNat from by omega⟩
  ·
   refine os (want_tn g1 rfl rfl rfl) ?_
   refine os (want_tn g1 rfl rfl rfl) ?_
   refine os (want_tn g1 rfl rfl rfl) ?_
   refine os (want_tn g1 rfl rfl rfl) ?_
   refine os (want_tn g1 rfl rfl rfl) ?_
   refine os (want_tn g1 rfl rfl rfl) ?_
   refine os (want_tn g1 rfl rfl rfl) ?_
   refine os (want_tn g1 rfl rfl rfl) ?_
   refine oq (qv_pick_f g1 rfl (rfl : ev _ _ = (Value.bool false))) ?_
   refine ops_nil ?_
   refine vc_ff rfl ?_
   refine vc_skip ?_
   refine vc_region ?_
   refine oq (qv_mv ov rfl) ?_
   refine oq (qv_mv (.int .i64 (gi ((srt t)) (i))) rfl) ?_
   refine oq (qv_build (out := [(.int .i64 (gi ((srt t)) (i))), (Value.int .i64 1)]) Tryz.build42 [(0, [(.int .i64 (gi ((srt t)) (i)))]), (1, [(Value.int .i64 1)])] rfl rfl) ?_
   refine ops_lit (n := 1) (s := 2) (cs := [(.int .i64 (gi ((srt t)) (i))), (Value.int .i64 1)]) Tryz.underlying36 Tryz.ti42 (Nat.le_of_ble_eq_true rfl) rfl rfl rfl (Nat.le_of_ble_eq_true rfl) rfl (fun b2 => ?_)
   refine ops_append (k := 1) (n := O.length) (s := 2) (m := 1) (v := ov) (xs := (p2s O)) (news := [(.int .i64 (gi ((srt t)) (i))), (Value.int .i64 1)]) Tryz.underlying36 Tryz.ti42 rfl (Nat.le_of_ble_eq_true rfl) rfl rfl rfl rfl (news_own (j := 2) rfl) (by simp [Value.oneCell']) (by omega) (by simp only [maxLen]; omega) (fun v2 hn2 => ?_)
   refine oq (qv_as v2 rfl) ?_
   refine ops_nil ?_
   refine vc_res (σ' := [(Gr 3 1 r1 t.length (((srt t).map (Value.int .i64)))), (Gr 42 2 v2 ((O.length + 1)) (((p2s O) ++ [(.int .i64 (gi ((srt t)) (i))), (Value.int .i64 1)]))), (Arr 42 b2 [(.int .i64 (gi ((srt t)) (i))), (Value.int .i64 1)])]) rfl ?_
   refine vc_drop [(Gr 3 1 r1 t.length (((srt t).map (Value.int .i64)))), (Gr 42 2 v2 ((O.length + 1)) (((p2s O) ++ [(Value.int .i64 (gi ((srt t)) (i))), (Value.int .i64 1)])))] [(Arr 42 b2 [(Value.int .i64 (gi ((srt t)) (i))), (Value.int .i64 1)])] ((List.perm_middle (l₁ := [(Gr 3 1 r1 t.length (((srt t).map (Value.int .i64)))), (Gr 42 2 v2 ((O.length + 1)) (((p2s O) ++ [(Value.int .i64 (gi ((srt t)) (i))), (Value.int .i64 1)])))]) (l₂ := [])).trans (List.perm_append_comm (l₁ := [(Arr 42 b2 [(Value.int .i64 (gi ((srt t)) (i))), (Value.int .i64 1)])]))) ?_
   refine vc_region ?_
   refine oq (qv_add rfl rfl (by omega)) ?_
   refine oq (qv_mv (.int .i64 (i + 1)) rfl) ?_
   refine ops_nil ?_
   refine ⟨(i + 1, v2, (O ++ [⟨gi (srt t) i, 1⟩])), ⟨rfl, rfl, rfl, rfl, rfl, rfl, (congrArg (Value.int .i64) (show (i + 1) = ((i + 1)) from by omega)), trivial⟩, (show V2 = V2 ∧ [(Gr 3 1 r1 t.length (((srt t).map (Value.int .i64)))), (Gr 42 2 v2 ((O ++ [⟨gi (srt t) i, 1⟩]) : List P2).length ((p2s ((O ++ [⟨gi (srt t) i, 1⟩]) : List P2))))] = [(Gr 3 1 r1 t.length (((srt t).map (Value.int .i64)))), (Gr 42 2 v2 ((O.length + 1)) (((p2s O) ++ [(.int .i64 (gi ((srt t)) (i))), (Value.int .i64 1)])))] ∧ 0 ≤ (i + 1 : Int) ∧ (i + 1 : Int) ≤ t.length ∧ ((O ++ [⟨gi (srt t) i, 1⟩]) : List P2).length ≤ (i + 1 : Int) ∧ HgI (srt t) (i + 1 : Int) ((O ++ [⟨gi (srt t) i, 1⟩]) : List P2) from ⟨rfl, (show [(Gr 3 1 r1 t.length (((srt t).map (Value.int .i64)))), (Gr 42 2 v2 ((O ++ [⟨gi (srt t) i, 1⟩]) : List P2).length ((p2s ((O ++ [⟨gi (srt t) i, 1⟩])))))] = [(Gr 3 1 r1 t.length (((srt t).map (Value.int .i64)))), (Gr 42 2 v2 ((O.length + 1)) (((p2s O) ++ [(.int .i64 (gi ((srt t)) (i))), (Value.int .i64 1)])))] from by first | rw [List.length_set] | rw [List.length_append, p2s_snoc]; rfl), by omega, by omega, by rw [List.length_append, List.length_singleton]; omega, hgI_new hH hss (by omega) (by omega) (fun q => by first | (have := q.1; omega) | exact absurd q.2 (by assumption))⟩), show (t.length - (i + 1)).toNat < (t.length - i).toNat from by omega⟩
 ·
  refine vc_exit ?_
  refine blockQ_hit ?_
  refine vc_seq ?_
  refine vc_region ?_
  refine oq (qv_mv ov rfl) ?_
  refine oq (qv_as ov rfl) ?_
  refine ops_nil ?_
  refine vc_freezeS (v := ov) (E := 42) (n := O.length) (xs := (p2s O)) (σr := [(Gr 3 1 r1 t.length (((srt t).map (Value.int .i64))))]) (List.perm_middle (l₁ := [(Gr 3 1 r1 t.length (((srt t).map (Value.int .i64))))]) (l₂ := [])) (fun Vf1 hVf1 hc1 => ?_)
  have ht := ht.mono hVf1
  refine vc_drop [] [(Gr 3 1 r1 t.length (((srt t).map (Value.int .i64))))] (.refl _) ?_
  refine vc_ret ?_
  refine rq1 ov rfl ?_
  have q := hc1
  have e : O = hgS t := hgI_end (by rw [show ((srt t).length : Int) = i by omega]; exact hH)
  rw [e] at q
  exact ⟨rfl, q⟩

set_option maxRecDepth 100000 in
set_option maxHeartbeats 4000000 in
theorem pairs_c {V : HV} {s t : List Int} {sv tv : Value} (hs : Ints .i64 V sv s) (ht : Ints .i64 V tv t) (hl : t.length = s.length) (hb : s.length ≤ 4096) (hsi : ∀ z ∈ s, inR z) (hti : ∀ z ∈ t, inR z) :
    FnC Tryz.prog 18 [sv, tv] V [] (fun v V' σ' => σ' = [] ∧ ∃ R : List P2, P2s V' v R ∧ R.Pairwise PLt ∧ ∀ z, z ∈ R ↔ z ∈ zp s t s.length) := by
 refine fn_intro (N := 29) Tryz.func18 (by kernel_rfl) rfl rfl rfl (Nat.le_of_ble_eq_true rfl) ?_
 intro w0 D
 refine vc_seq ?_
 refine vc_region ?_
 refine oq (qv_as (Value.slice none 0 0) rfl) ?_
 refine ops_nil ?_
 refine vc_seq ?_
 refine vc_nil 50 2 ?_
 refine vc_region ?_
 refine oq (qv_as (Value.slice none 0 0) rfl) ?_
 refine ops_nil ?_
 refine vc_seq ?_
 refine vc_seq ?_
 refine vc_res (σ' := [(Gr 50 2 ((Value.slice none 0 0)) 0 ([]))]) rfl ?_
 refine vc_region ?_
 refine oq (qv_mv sv rfl) ?_
 refine oq (qv_lenI Tryz.underlying22 rfl hs) ?_
 refine oq (qv_mv (Value.int .i64 0) rfl) ?_
 refine ops_nil ?_
 refine vc_block ?_
 refine vc_loop (α := Int × Value) (fun (xx : Int × Value) => [(0, sv), (1, tv), (4, (Value.slice none 0 0)), (8, (.int .i64 ((s.length : Int)))), (5, xx.2), (9, (Value.int .i64 xx.1))]) (fun (xx : Int × Value) V' σ' => V = V' ∧ [(Gr 50 2 xx.2 xx.1.toNat ((p2s (zp s t xx.1.toNat))))] = σ' ∧ 0 ≤ xx.1 ∧ xx.1 ≤ s.length) (fun (xx : Int × Value) => (s.length - xx.1).toNat) (0, (Value.slice none 0 0)) ?_ ?_ ?_
 · exact ⟨rfl, rfl, rfl, rfl, (by first | rfl | (first | omega | simp)), rfl, trivial⟩
 · exact ⟨rfl, (show [(Gr 50 2 ((Value.slice none 0 0)) (0 : Int).toNat ((p2s (zp s t (0 : Int).toNat))))] = [(Gr 50 2 ((Value.slice none 0 0)) 0 ([]))] from by rfl), by omega, by omega⟩
 rintro ⟨i, ov⟩ e1 V0l σ0l hI0
 obtain ⟨rfl, rfl, i1, i2⟩ : V = V0l ∧ [(Gr 50 2 ov i.toNat ((p2s (zp s t i.toNat))))] = σ0l ∧ 0 ≤ i ∧ i ≤ s.length := hI0
 change VC _ _ _ _ _ _ (upds 29 [(0, sv), (1, tv), (4, (Value.slice none 0 0)), (8, (.int .i64 ((s.length : Int)))), (5, ov), (9, (Value.int .i64 i))] e1) _ _
 refine vc_seq ?_
 refine vc_res (σ' := [(Gr 50 2 ov i.toNat ((p2s (zp s t i.toNat))))]) rfl ?_
 refine vc_region ?_
 refine oq (qv_lss rfl rfl) ?_
 refine ops_nil ?_
 refine vc_seq ?_
 refine vc_if rfl (fun c1 => ?_) (fun c1 => ?_)
 ·
  refine vc_skip ?_
  refine vc_seq ?_
  refine vc_block ?_
  refine vc_seq ?_
  refine vc_region ?_
  refine oq (qv_mv (Value.int .i64 i) rfl) ?_
  refine oq (qv_as (Value.int .i64 i) rfl) ?_
  refine ops_nil ?_
  refine vc_region_order (τ := [(Gr 50 2 ov i.toNat ((p2s (zp s t i.toNat))))]) [(0, false), (1, false), (2, false), (3, false), (4, false), (5, false), (6, false), (7, false), (8, false), (9, false), (10, true), (11, true), (12, false)] [] Tryz.mixed (perm_idx _ _ [0] rfl rfl) (by kernel_rfl) ?_
  refine rq rfl (qv_mv ov rfl) ?_
  refine rq rfl (qv_mv sv rfl) ?_
  refine rq rfl (qv_mv (Value.int .i64 i) rfl) ?_
  refine rq rfl (qv_iai (v := sv) (i := i) Tryz.underlying22 Tryz.size3 rfl (inVi hs) rfl (by omega) (by omega)) ?_
  refine rq rfl (qv_ldi (v := sv) (i := i) Tryz.plain3 rfl (inVi hs) (by omega) (by omega)) ?_
  refine rq rfl (qv_mv tv rfl) ?_
  refine rq rfl (qv_mv (Value.int .i64 i) rfl) ?_
  refine rq rfl (qv_iai (v := tv) (i := i) Tryz.underlying22 Tryz.size3 rfl (inVi ht) rfl (by omega) (by omega)) ?_
  refine rq rfl (qv_ldi (v := tv) (i := i) Tryz.plain3 rfl (inVi ht) (by omega) (by omega)) ?_
  refine rq rfl (qv_build (out := [(.int .i64 (gi s (i))), (.int .i64 (gi t (i)))]) Tryz.build50 [(0, [(.int .i64 (gi s (i)))]), (1, [(.int .i64 (gi t (i)))])] rfl rfl) ?_
  refine rl rfl ?_
  refine ops_lit (n := 1) (s := 2) (cs := [(.int .i64 (gi s (i))), (.int .i64 (gi t (i)))]) Tryz.underlying44 Tryz.ti50 (Nat.le_of_ble_eq_true rfl) rfl rfl rfl (Nat.le_of_ble_eq_true rfl) rfl (fun b1 => ?_)
  refine ops_nil ⟨[(Arr 50 b1 [(.int .i64 (gi s (i))), (.int .i64 (gi t (i)))])], [(Gr 50 2 ov i.toNat ((p2s (zp s t i.toNat))))], (Sub.refl _), (perm_idx _ _ [1, 0] rfl rfl), ⟨[(Arr 50 b1 [(.int .i64 (gi s (i))), (.int .i64 (gi t (i)))])], .refl _⟩, ?_⟩
  refine rl rfl ?_
  refine ops_append (k := 0) (n := i.toNat) (s := 2) (m := 1) (v := ov) (xs := (p2s (zp s t i.toNat))) (news := [(.int .i64 (gi s (i))), (.int .i64 (gi t (i)))]) Tryz.underlying44 Tryz.ti50 rfl (Nat.le_of_ble_eq_true rfl) rfl rfl rfl rfl (news_own (j := 1) rfl) (by simp [Value.oneCell']) (by omega) (by simp only [maxLen]; omega) (fun v1 hn1 => ?_)
  refine ops_nil ⟨[(Arr 50 b1 [(.int .i64 (gi s (i))), (.int .i64 (gi t (i)))])], [(Gr 50 2 v1 ((i.toNat + 1)) (((p2s (zp s t i.toNat)) ++ [(.int .i64 (gi s (i))), (.int .i64 (gi t (i)))])))], (Sub.refl _), (perm_idx _ _ [1, 0] rfl rfl), ⟨[], .refl _⟩, ?_⟩
  refine rq rfl (qv_as v1 rfl) ?_
  refine rnil ?_
  refine vc_res (σ' := [(Gr 50 2 v1 ((i.toNat + 1)) (((p2s (zp s t i.toNat)) ++ [(.int .i64 (gi s (i))), (.int .i64 (gi t (i)))]))), (Arr 50 b1 [(.int .i64 (gi s (i))), (.int .i64 (gi t (i)))])]) rfl ?_
  refine vc_drop [(Gr 50 2 v1 ((i.toNat + 1)) (((p2s (zp s t i.toNat)) ++ [(Value.int .i64 (gi s (i))), (Value.int .i64 (gi t (i)))])))] [(Arr 50 b1 [(Value.int .i64 (gi s (i))), (Value.int .i64 (gi t (i)))])] ((List.perm_middle (l₁ := [(Gr 50 2 v1 ((i.toNat + 1)) (((p2s (zp s t i.toNat)) ++ [(Value.int .i64 (gi s (i))), (Value.int .i64 (gi t (i)))])))]) (l₂ := [])).trans (List.perm_append_comm (l₁ := [(Arr 50 b1 [(Value.int .i64 (gi s (i))), (Value.int .i64 (gi t (i)))])]))) ?_
  refine vc_region ?_
  refine oq (qv_add rfl rfl (by omega)) ?_
  refine oq (qv_mv (.int .i64 (i + 1)) rfl) ?_
  refine ops_nil ?_
  refine ⟨(i + 1, v1), ⟨rfl, rfl, rfl, rfl, rfl, (congrArg (Value.int .i64) (show (i + 1) = ((i + 1)) from by omega)), trivial⟩, ⟨rfl, (show [(Gr 50 2 v1 (i + 1 : Int).toNat ((p2s (zp s t (i + 1 : Int).toNat))))] = [(Gr 50 2 v1 ((i.toNat + 1)) (((p2s (zp s t i.toNat)) ++ [(.int .i64 (gi s (i))), (.int .i64 (gi t (i)))])))] from by rw [zp_step (by omega), p2s_snoc, show (i + 1).toNat = i.toNat + 1 by omega] <;> rfl), by omega, by omega⟩, by omega⟩
 ·
  refine vc_exit ?_
  refine blockQ_hit ?_
  refine vc_seq ?_
  obtain ⟨T, hT⟩ := prs_ex (zp_in (n := s.length) hsi hti (Nat.le_refl _) (by omega))
  have hTl : T.length = s.length := by have q := congrArg List.length hT; rw [zp_len, List.length_map] at q; exact q
  rw [show Gr 50 2 ov i.toNat (p2s (zp s t i.toNat)) = Gr 50 2 ov T.length (p2s (vals2 T)) by rw [show i.toNat = s.length by omega, hTl, hT]]
  refine vc_region ?_
  refine oq (qv_mv ov rfl) ?_
  refine ops_call (σa := [(Gr 50 2 ov T.length ((p2s (vals2 T))))]) (σr := []) (SortQ_c (T := T) (by omega)) rfl rfl (.refl _) (fun r1 V1 sg1 hV1 hp1 => ?_)
  obtain ⟨rfl, hVV, T', hp1, hs1, rfl⟩ := hp1
  have hTl2 : (vals2 T').length = T.length := by rw [List.length_map]; exact hp1.length_eq
  have hs := hs.mono hV1
  have ht := ht.mono hV1
  refine ops_nil ?_
  refine vc_seq ?_
  refine vc_res (σ' := [(Gr 50 2 ov T.length ((p2s (vals2 T'))))]) rfl ?_
  refine vc_region ?_
  refine oq (qv_mv ov rfl) ?_
  refine ops_call (σa := [(Gr 50 2 ov T.length ((p2s (vals2 T'))))]) (σr := []) (by have h := CompactP_c (V := V1) (v := ov) (X := vals2 T') (by omega); rw [hTl2] at h; exact h) rfl rfl (.refl _) (fun r2 V2 sg2 hV2 hp2 => ?_)
  obtain ⟨R, hR, rfl⟩ := hp2
  obtain ⟨u1, hu1⟩ : ∃ x, x = r2 := ⟨_, rfl⟩
  subst hu1
  have hs := hs.mono hV2
  have ht := ht.mono hV2
  refine oq (qv_as u1 rfl) ?_
  refine ops_nil ?_
  refine vc_freezeS (v := u1) (E := 50) (n := R.length) (xs := (p2s R)) (σr := []) (List.perm_middle (l₁ := []) (l₂ := [])) (fun Vf1 hVf1 hc1 => ?_)
  have hs := hs.mono hVf1
  have ht := ht.mono hVf1
  refine vc_ret ?_
  refine rq1 u1 rfl ?_
  exact ⟨rfl, R, hc1, hR.2.1 hs1, fun z => (hR.1 z).trans (by rw [← hT]; exact (hp1.map (·.1)).mem_iff)⟩

set_option maxRecDepth 100000 in
set_option maxHeartbeats 4000000 in
theorem EqP_c {V : HV} {a b : Value} {A B : List P2} (hA : P2s V a A) (hB : P2s V b B) :
    FnC Tryz.prog 20 [a, b] V [] (fun v _ _ => v = (.bool (decide (A = B)))) := by
 refine fn_intro (N := 26) Tryz.func20 (by kernel_rfl) rfl rfl rfl (Nat.le_of_ble_eq_true rfl) ?_
 intro w0 D
 have hb := SlS.bound hA
 have hb2 := SlS.bound hB
 refine vc_seq ?_
 refine vc_region ?_
 refine oq (qv_as (Value.bool false) rfl) ?_
 refine ops_nil ?_
 refine vc_seq ?_
 refine vc_seq ?_
 refine vc_region ?_
 refine oq (qv_mv a rfl) ?_
 refine oq (qv_lenSS Tryz.underlying44 rfl hA) ?_
 refine oq (qv_mv b rfl) ?_
 refine oq (qv_lenSS Tryz.underlying44 rfl hB) ?_
 refine oq (qv_neq rfl rfl) ?_
 refine ops_nil ?_
 refine vc_if rfl (fun c1 => ?_) (fun c1 => ?_)
 ·
  refine vc_seq ?_
  refine vc_region ?_
  refine oq (qv_as (Value.bool false) rfl) ?_
  refine ops_nil ?_
  refine vc_ret ?_
  exact rq1 (.bool (decide (A = B))) (congrArg Value.bool (decide_eq_false (show ¬ (A = B) from by intro hx; subst hx; first | omega | exact absurd ⟨rfl, rfl⟩ (by assumption))).symm) rfl
 ·
  refine vc_skip ?_
  refine vc_seq ?_
  refine vc_seq ?_
  refine vc_region ?_
  refine oq (qv_mv a rfl) ?_
  refine oq (qv_lenSS Tryz.underlying44 rfl hA) ?_
  refine oq (qv_mv (Value.int .i64 0) rfl) ?_
  refine ops_nil ?_
  refine vc_block ?_
  refine vc_loop (α := Int) (fun (xx : Int) => [(0, a), (1, b), (10, (.bool (decide (((A.length : Int)) ≠ ((B.length : Int)))))), (12, (.int .i64 ((A.length : Int)))), (13, (Value.int .i64 xx))]) (fun (xx : Int) V' σ' => V = V' ∧ [] = σ' ∧ 0 ≤ xx ∧ xx ≤ A.length ∧ ∀ x : Int, 0 ≤ x → x < xx → p2 A x = p2 B x) (fun (xx : Int) => (A.length - xx).toNat) (0) ?_ ?_ ?_
  · exact ⟨rfl, rfl, rfl, rfl, rfl, trivial⟩
  · exact ⟨rfl, rfl, by omega, by omega, fun x a b => by omega⟩
  rintro i e1 V0l σ0l hI0
  obtain ⟨rfl, rfl, i1, i2, hi⟩ : V = V0l ∧ [] = σ0l ∧ 0 ≤ i ∧ i ≤ A.length ∧ ∀ x : Int, 0 ≤ x → x < i → p2 A x = p2 B x := hI0
  refine vc_seq ?_
  refine vc_region ?_
  refine oq (qv_lss rfl rfl) ?_
  refine ops_nil ?_
  refine vc_seq ?_
  refine vc_if rfl (fun c2 => ?_) (fun c2 => ?_)
  ·
   refine vc_skip ?_
   refine vc_seq ?_
   refine vc_block ?_
   refine vc_seq ?_
   refine vc_region ?_
   refine oq (qv_mv (Value.int .i64 i) rfl) ?_
   refine oq (qv_as (Value.int .i64 i) rfl) ?_
   refine ops_nil ?_
   refine vc_seq ?_
   refine vc_region_any Tryz.mixed (by kernel_rfl) ?_
   refine qq (qv_mv a rfl) ?_
   refine qq (qv_mv (Value.int .i64 i) rfl) ?_
   refine qq (qv_ias (v := a) (i := i) Tryz.underlying44 Tryz.size50 rfl hA rfl (by omega) (by omega)) ?_
   refine qq (qv_lds (v := a) (i := i) (vs := [(.int .i64 ((p2 A (i)).a)), (.int .i64 ((p2 A (i)).b))]) Tryz.agg50 rfl hA (by omega) (by omega) (p2s_at (by omega) (by omega))) ?_
   refine qq (qv_mv b rfl) ?_
   refine qq (qv_mv (Value.int .i64 i) rfl) ?_
   refine qq (qv_ias (v := b) (i := i) Tryz.underlying44 Tryz.size50 rfl hB rfl (by omega) (by omega)) ?_
   refine qq (qv_lds (v := b) (i := i) (vs := [(.int .i64 ((p2 B (i)).a)), (.int .i64 ((p2 B (i)).b))]) Tryz.agg50 rfl hB (by omega) (by omega) (p2s_at (by omega) (by omega))) ?_
   refine qq (qv_neqs Tryz.eq50 [(p2 A (i)).a, (p2 A (i)).b] [(p2 B (i)).a, (p2 B (i)).b] rfl rfl rfl rfl rfl rfl eq2) ?_
   refine qops_nil ?_
   refine vc_if rfl (fun c3 => ?_) (fun c3 => ?_)
   ·
    refine vc_seq ?_
    refine vc_region ?_
    refine oq (qv_as (Value.bool false) rfl) ?_
    refine ops_nil ?_
    refine vc_ret ?_
    refine blockQ_ret ?_
    refine blockQ_ret ?_
    exact rq1 (.bool (decide (A = B))) (congrArg Value.bool (decide_eq_false (show ¬ (A = B) from by intro hx; subst hx; first | omega | exact absurd ⟨rfl, rfl⟩ (by assumption))).symm) rfl
   ·
    refine vc_skip ?_
    refine vc_region ?_
    refine oq (qv_add rfl rfl (by omega)) ?_
    refine oq (qv_mv (.int .i64 (i + 1)) rfl) ?_
    refine ops_nil ?_
    refine ⟨(i + 1), ⟨rfl, rfl, rfl, rfl, (congrArg (Value.int .i64) (show (i + 1) = ((i + 1)) from by omega)), trivial⟩, ⟨rfl, rfl, by omega, by omega, all_snoc hi (p2_eq (Decidable.not_not.1 (by assumption)))⟩, by omega⟩
  ·
   refine vc_exit ?_
   refine blockQ_hit ?_
   refine vc_seq ?_
   refine vc_region ?_
   refine oq (qv_as (Value.bool true) rfl) ?_
   refine ops_nil ?_
   refine vc_ret ?_
   exact rq1 (.bool (decide (A = B))) (congrArg Value.bool (decide_eq_true (show (A = B) from by exact ext_p2 (by omega) (fun x a b => hi x a (by omega)))).symm) rfl

end Go.Proofs.YtkmhjcjpohpiaaaGreat
