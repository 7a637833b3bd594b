/- Walks of merge: what each function returns. Printed by a program out of notes. -/
import Derived.Test.YtmkbjhligjnagaaMjH
import Derived.Test.YtmkbjhligjnagaaMjF
namespace Go.Proofs.Ytmkbjhligjnagaa
open Go Go.Vc
open Classical
set_option maxRecDepth 100000
set_option maxRecDepth 100000 in
set_option maxHeartbeats 4000000 in
theorem table_c {V : HV} {L : List (List Int)} {K : Int} {cv : Value} {pg bm : Nat} {F : Int × Int → Option Int} (hp : Cells V pg [cv, .map (some bm)]) (h6 : L.length ≤ 6) (hK : K ≤ 32) (hF : VOk L K F) :
    FnC Try.prog 54 [(Value.pointer (some ⟨pg, 0, none⟩))] V [(Mf bm k2v (Value.int .i64) F)] (fun v _ σ' => ∃ T, σ' = [Gr 66 3 v T.length (bes T)] ∧ TabOk F T) := by
 refine fn_intro (N := 28) Try.func54 (by kernel_rfl) rfl rfl rfl (Nat.le_of_ble_eq_true rfl) ?_
 intro w0 D
 refine vc_seq ?_
 refine vc_res (σ' := [(Mf bm k2v (Value.int .i64) F)]) rfl ?_
 refine vc_region ?_
 refine oq (qv_as (Value.slice none 0 0) rfl) ?_
 refine ops_nil ?_
 refine vc_seq ?_
 refine vc_nil 66 3 ?_
 refine vc_region ?_
 refine oq (qv_as (Value.slice none 0 0) rfl) ?_
 refine ops_nil ?_
 refine vc_seq ?_
 refine vc_seq ?_
 refine vc_res (σ' := [(Mf bm k2v (Value.int .i64) F), (Gr 66 3 ((Value.slice none 0 0)) 0 ([]))]) rfl ?_
 refine vc_region ?_
 refine oq (qv_mv (Value.pointer (some ⟨pg, 0, none⟩)) rfl) ?_
 refine oq (qv_nilck rfl) ?_
 refine oq (qv_fa (off := 0) Try.field82_1 rfl) ?_
 refine oq (qv_ldp (v := (Value.map (some bm))) Try.plain64 rfl (inVc hp) rfl) ?_
 refine ops_range (k := 0) Try.underlying64 rfl rfl (fun ri1 nk1 => ?_)
 refine ops_nil ?_
 refine vc_block ?_
 refine vc_loopD (α := List (Int × Int) × Value) (fun (xx : List (Int × Int) × Value) => [(0, (Value.pointer (some ⟨pg, 0, none⟩))), (2, (Value.slice none 0 0)), (10, (Value.pointer (some ⟨ri1, 0, none⟩))), (3, xx.2)]) (fun (xx : List (Int × Int) × Value) V' σ' => V = V' ∧ [(Mit ri1 bm k2v (Value.int .i64) F nk1 xx.1), (Gr 66 3 xx.2 ((xx.1.map (ent F)).length) ((bes (xx.1.map (ent F)))))] = σ' ∧ xx.1.Nodup ∧ ∀ q ∈ xx.1, F q ≠ none) (fun (xx : List (Int × Int) × Value) => nk1 - xx.1.length) ([], (Value.slice none 0 0)) ?_ ?_ ?_
 · exact ⟨rfl, rfl, rfl, (by first | rfl | (first | omega | simp)), trivial⟩
 · exact ⟨rfl, (show [(Mit ri1 bm k2v (Value.int .i64) F nk1 ([])), (Gr 66 3 ((Value.slice none 0 0)) ((([] : List (Int × Int)).map (ent F)).length) ((bes (([] : List (Int × Int)).map (ent F)))))] = [(Mit ri1 bm k2v (Value.int .i64) F nk1 ([])), (Gr 66 3 ((Value.slice none 0 0)) 0 ([]))] from by rfl), List.nodup_nil, fun q hq => by cases hq⟩
 rintro ⟨ks, ov⟩ e1 V0l σ0l hI0
 obtain ⟨rfl, rfl, hnd, hks⟩ : V = V0l ∧ [(Mit ri1 bm k2v (Value.int .i64) F nk1 ks), (Gr 66 3 ov ((ks.map (ent F)).length) ((bes (ks.map (ent F)))))] = σ0l ∧ ks.Nodup ∧ ∀ q ∈ ks, F q ≠ none := hI0
 change VC _ _ _ _ _ _ (upds 28 [(0, (Value.pointer (some ⟨pg, 0, none⟩))), (2, (Value.slice none 0 0)), (10, (Value.pointer (some ⟨ri1, 0, none⟩))), (3, ov)] e1) _ _
 refine vc_seq ?_
 refine vc_res (σ' := [(Mit ri1 bm k2v (Value.int .i64) F nk1 ks), (Gr 66 3 ov ((ks.map (ent F)).length) ((bes (ks.map (ent F)))))]) rfl ?_
 refine vc_region ?_
 refine ops_next (k := 0) rfl rfl (fun hcov1 => ?_) (fun kq1 kv1 hkv1 hkn1 hkl1 => ?_)
 ·
  refine oq (qv_ext (Value.bool false) rfl rfl) ?_
  refine ops_nil ?_
  refine vc_seq ?_
  refine vc_ff rfl ?_
  refine vc_exit ?_
  refine blockQ_hit ?_
  refine vc_seq ?_
  refine vc_region ?_
  refine oq (qv_mv ov rfl) ?_
  refine ops_call (σa := [(Gr 66 3 ov ((ks.map (ent F)).length) ((bes (ks.map (ent F)))))]) (σr := [(Mit ri1 bm k2v (Value.int .i64) F nk1 ks)]) (sortB_c (by have := kbd hnd (fun q hq => vok_rng hK h6 hF (hks q hq)); simp only [List.length_map]; omega)) rfl rfl (perm_idx _ _ [1, 0] rfl rfl) (fun r1 V1 sg1 hV1 hp1 => ?_)
  obtain ⟨rfl, hVV, Ts, hTp, hTs, rfl⟩ := hp1
  have hp := hp.mono hV1
  refine ops_perm (σ' := [(Mit ri1 bm k2v (Value.int .i64) F nk1 ks), (Gr 66 3 ov ((ks.map (ent F)).length) ((bes Ts)))]) (perm_idx _ _ [1, 0] rfl rfl) ?_
  refine ops_nil ?_
  refine vc_seq ?_
  refine vc_res (σ' := [(Mit ri1 bm k2v (Value.int .i64) F nk1 ks), (Gr 66 3 ov ((ks.map (ent F)).length) ((bes Ts)))]) rfl ?_
  refine vc_region ?_
  refine oq (qv_mv ov rfl) ?_
  refine oq (qv_as ov rfl) ?_
  refine ops_nil ?_
  refine vc_drop [(Gr 66 3 ov ((ks.map (ent F)).length) ((bes Ts)))] [(Mit ri1 bm k2v (Value.int .i64) F nk1 ks)] ((List.perm_middle (l₁ := []) (l₂ := [(Gr 66 3 ov ((ks.map (ent F)).length) ((bes Ts)))])).trans (List.perm_append_comm (l₁ := [(Mit ri1 bm k2v (Value.int .i64) F nk1 ks)]))) ?_
  refine vc_ret ?_
  refine rq1 ov rfl ?_
  exact ⟨Ts, by rw [hTp.length_eq], ks, hnd, fun q => ⟨hcov1 q, hks q⟩, hTp, hTs⟩
 ·
  refine oq (qv_ext (Value.bool true) rfl rfl) ?_
  refine ops_nil ?_
  refine vc_seq ?_
  refine vc_tt rfl ?_
  refine vc_skip ?_
  refine vc_block ?_
  refine vc_seq ?_
  refine vc_res (σ' := [(Mit ri1 bm k2v (Value.int .i64) F nk1 ((ks ++ [kq1]))), (Gr 66 3 ov ((ks.map (ent F)).length) ((bes (ks.map (ent F)))))]) rfl ?_
  refine vc_region ?_
  refine oq (qv_entry (k := 0) (q := kq1) (v := kv1) rfl rfl hkv1) ?_
  refine oq (qv_ext (.agg #[(.int .i64 kq1.1), (.int .i64 kq1.2)]) rfl rfl) ?_
  refine oq (qv_ext (Value.int .i64 kv1) rfl rfl) ?_
  refine ops_alloc Try.ti67 rfl (fun b1 => ?_)
  refine ops_stw (k := 2) (vs := [(.int .i64 kq1.1), (.int .i64 kq1.2)]) Try.size67 rfl rfl rfl rfl rfl rfl ?_
  refine oq (qv_as (Value.int .i64 kv1) rfl) ?_
  refine ops_nil ?_
  refine vc_res (σ' := [(Mit ri1 bm k2v (Value.int .i64) F nk1 ((ks ++ [kq1]))), (Gr 66 3 ov ((ks.map (ent F)).length) ((bes (ks.map (ent F))))), (Arr 67 b1 [(.int .i64 kq1.1), (.int .i64 kq1.2)])]) rfl ?_
  have hkb := kbd hnd (fun q hq => vok_rng hK h6 hF (hks q hq))
  refine vc_region ?_
  refine oq (qv_mv ov rfl) ?_
  refine oq (qv_iaa (i := 1) (off := 0) Try.underlying67 Try.size3 rfl rfl (by omega) (by omega) rfl) ?_
  refine oq (qv_ldp (v := (.int .i64 kq1.2)) Try.plain3 rfl (inOc (k := 2) rfl) rfl) ?_
  refine oq (qv_iaa (i := 0) (off := 0) Try.underlying67 Try.size3 rfl rfl (by omega) (by omega) rfl) ?_
  refine oq (qv_ldp (v := (.int .i64 kq1.1)) Try.plain3 rfl (inOc (k := 2) rfl) rfl) ?_
  refine oq (qv_mv (Value.int .i64 kv1) rfl) ?_
  refine oq (qv_build (out := [(.int .i64 kq1.2), (.int .i64 kq1.1), (Value.int .i64 kv1)]) Try.build66 [(0, [(.int .i64 kq1.2)]), (1, [(.int .i64 kq1.1)]), (2, [(Value.int .i64 kv1)])] rfl rfl) ?_
  refine ops_lit (n := 1) (s := 3) (cs := [(.int .i64 kq1.2), (.int .i64 kq1.1), (Value.int .i64 kv1)]) Try.underlying46 Try.ti66 (Nat.le_of_ble_eq_true rfl) rfl rfl rfl (Nat.le_of_ble_eq_true rfl) rfl (fun b2 => ?_)
  refine ops_append (k := 1) (n := (ks.map (ent F)).length) (s := 3) (m := 1) (v := ov) (xs := (bes (ks.map (ent F)))) (news := [(.int .i64 kq1.2), (.int .i64 kq1.1), (Value.int .i64 kv1)]) Try.underlying46 Try.ti66 rfl (Nat.le_of_ble_eq_true rfl) rfl rfl rfl rfl (news_own (j := 3) rfl) (by simp [Value.oneCell']) (by simp only [List.length_map]; omega) (by simp only [maxLen, List.length_map]; omega) (fun v1 hn1 => ?_)
  refine oq (qv_as v1 rfl) ?_
  refine ops_nil ?_
  refine ⟨(ks ++ [kq1], v1), ⟨rfl, rfl, rfl, rfl, trivial⟩, ⟨[(Mit ri1 bm k2v (Value.int .i64) F nk1 ((ks ++ [kq1]))), (Gr 66 3 v1 (((ks.map (ent F)).length + 1)) (((bes (ks.map (ent F))) ++ [(.int .i64 kq1.2), (.int .i64 kq1.1), (Value.int .i64 kv1)])))], [(Arr 67 b1 [(.int .i64 kq1.1), (.int .i64 kq1.2)]), (Arr 66 b2 [(.int .i64 kq1.2), (.int .i64 kq1.1), (Value.int .i64 kv1)])], (perm_idx _ _ [0, 1, 2, 3] rfl rfl), ⟨rfl, (show [(Mit ri1 bm k2v (Value.int .i64) F nk1 (ks ++ [kq1])), (Gr 66 3 v1 (((ks ++ [kq1] : List (Int × Int)).map (ent F)).length) ((bes ((ks ++ [kq1] : List (Int × Int)).map (ent F)))))] = [(Mit ri1 bm k2v (Value.int .i64) F nk1 ((ks ++ [kq1]))), (Gr 66 3 v1 (((ks.map (ent F)).length + 1)) (((bes (ks.map (ent F))) ++ [(.int .i64 kq1.2), (.int .i64 kq1.1), (Value.int .i64 kv1)])))] from by rw [tb_step hkv1, List.map_append, List.length_append]; rfl), nd_snoc hnd hkn1, nn_snoc hks hkv1⟩⟩, by simp only [List.length_append, List.length_singleton]; omega⟩

end Go.Proofs.Ytmkbjhligjnagaa
