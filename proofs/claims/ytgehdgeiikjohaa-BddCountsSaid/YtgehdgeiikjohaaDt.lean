/- Walks of bdd: what each function returns. Printed by a program out of notes. -/
import Derived.Test.YtgehdgeiikjohaaDr
import Derived.Test.YtgehdgeiikjohaaBdG
import Derived.Test.YtgehdgeiikjohaaBdF
namespace Go.Proofs.Ytgehdgeiikjohaa
open Go.Vc
open Classical

set_option maxRecDepth 100000 in
set_option maxHeartbeats 4000000 in
theorem Support_c {V : HV} {na : Value} {A : Dg} (hA : Fks V na A.N) :
    FnC Try.prog 45 [(.agg #[(.int .i64 A.v), na, (.int .i64 A.r)])] V [] (fun v V' σ' => σ' = [] ∧ ∃ u, v = .tuple #[u, .int .i64 (vE [A])] ∧ Ints .i64 V' u (suT A)) := by
 refine fn_intro (N := 31) Try.func45 (by kernel_rfl) rfl rfl rfl (Nat.le_of_ble_eq_true rfl) ?_
 intro w0 D
 have hb := SlS.bound hA
 refine vc_seq ?_
 refine vc_region ?_
 refine ops_box (v := (.agg #[(.int .i64 A.v), na, (.int .i64 A.r)])) (cs := [(.int .i64 A.v), na, (.int .i64 A.r)]) rfl rfl (fun b1 => ?_)
 refine oq (qv_as (Value.slice none 0 0) rfl) ?_
 refine oq (qv_as (Value.int .i64 0) rfl) ?_
 refine ops_nil ?_
 refine vc_seq ?_
 refine vc_seq ?_
 refine vc_res (σ' := [(Arr 24 b1 [(.int .i64 A.v), na, (.int .i64 A.r)])]) rfl ?_
 refine vc_region ?_
 refine oq (qv_ldm (vs := [(.int .i64 A.v), na, (.int .i64 A.r)]) Try.agg24 rfl (inOc (k := 0) rfl) rfl rfl) ?_
 refine ops_lit (n := 1) (s := 3) (cs := [(.int .i64 A.v), na, (.int .i64 A.r)]) Try.underlying83 Try.ti24 (Nat.le_of_ble_eq_true rfl) rfl rfl rfl (Nat.le_of_ble_eq_true rfl) rfl (fun b2 => ?_)
 refine ops_freeze (b := b2) (o := .cells ([(Value.int .i64 (A.v)), na, (Value.int .i64 (A.r))] : List Value).toArray 24 (0, 0)) (σr := [(Arr 24 b1 [(Value.int .i64 (A.v)), na, (Value.int .i64 (A.r))])]) (List.perm_middle (l₁ := [(Arr 24 b1 [(Value.int .i64 (A.v)), na, (Value.int .i64 (A.r))])]) (l₂ := [])) (fun Vf1 hVf1 hb1 => ?_)
 have hc1 : Cells Vf1 b2 [(.int .i64 A.v), na, (.int .i64 A.r)] := ⟨_, _, hb1⟩
 have hA := hA.mono hVf1
 refine oq (qv_call (v := (.int .i64 (vE [A]))) (valid_c (Bdl.one hc1 hA) (by show 1 ≤ 1; omega)) rfl rfl) ?_
 refine oq (qv_as (.int .i64 (vE [A])) rfl) ?_
 refine ops_nil ?_
 refine vc_seq ?_
 refine vc_region ?_
 refine oq (qv_mv (.int .i64 (vE [A])) rfl) ?_
 refine oq (qv_neq rfl rfl) ?_
 refine ops_nil ?_
 refine vc_if rfl (fun c1 => ?_) (fun c1 => ?_)
 ·
  refine vc_seq ?_
  refine vc_region ?_
  refine oq (qv_mv (.int .i64 (vE [A])) rfl) ?_
  refine oq (qv_as (Value.slice none 0 0) rfl) ?_
  refine oq (qv_as (.int .i64 (vE [A])) rfl) ?_
  refine ops_nil ?_
  refine vc_drop [] [(Arr 24 b1 [(.int .i64 A.v), na, (.int .i64 A.r)])] (.refl _) ?_
  refine vc_ret ?_
  refine rq2 (Value.slice none 0 0) (.int .i64 (vE [A])) rfl rfl ?_
  rw [su_n (by omega)]
  exact ⟨rfl, _, rfl, Ints.nil⟩
 ·
  refine vc_skip ?_
  refine vc_seq ?_
  have hz : vE [A] = 0 := by omega
  have hok := ok_of hz
  have hln := hok.2.1
  refine vc_region ?_
  refine oq (qv_as (Value.slice none 0 0) rfl) ?_
  refine ops_nil ?_
  refine vc_seq ?_
  refine vc_seq ?_
  refine vc_nil 3 1 ?_
  refine vc_region ?_
  refine oq (qv_fa (off := 0) Try.field24_1 rfl) ?_
  refine oq (qv_ldp (v := na) Try.plain22 rfl (inOc (k := 0) rfl) rfl) ?_
  refine oq (qv_lenSS Try.underlying22 rfl hA) ?_
  refine oq (qv_mv (Value.int .i64 0) rfl) ?_
  refine ops_nil ?_
  refine vc_block ?_
  refine vc_loop (α := Int × Value) (fun (xx : Int × Value) => [(0, (.agg #[(.int .i64 A.v), na, (.int .i64 A.r)])), (1, (Value.pointer (some ⟨b1, 0, none⟩))), (2, (Value.slice none 0 0)), (3, (Value.int .i64 0)), (4, (.int .i64 (vE [A]))), (12, (.bool (decide ((vE [A]) ≠ 0)))), (15, na), (16, (.int .i64 ((A.N.length : Int)))), (5, xx.2), (17, (Value.int .i64 xx.1))]) (fun (xx : Int × Value) V' σ' => Vf1 = V' ∧ [(Arr 24 b1 [(.int .i64 A.v), na, (.int .i64 A.r)]), (Gr 3 1 xx.2 ((vlL A xx.1).length) (((vlL A xx.1).map (Value.int .i64))))] = σ' ∧ 0 ≤ xx.1 ∧ xx.1 ≤ A.N.length) (fun (xx : Int × Value) => (A.N.length - xx.1).toNat) (0, (Value.slice none 0 0)) ?_ ?_ ?_
  · exact ⟨rfl, rfl, rfl, rfl, rfl, rfl, rfl, rfl, (by first | rfl | (first | omega | simp)), rfl, trivial⟩
  · exact ⟨rfl, (show [(Arr 24 b1 [(.int .i64 A.v), na, (.int .i64 A.r)]), (Gr 3 1 ((Value.slice none 0 0)) ((vlL A 0).length) (((vlL A 0).map (Value.int .i64))))] = [(Arr 24 b1 [(.int .i64 A.v), na, (.int .i64 A.r)]), (Gr 3 1 ((Value.slice none 0 0)) 0 ([]))] from by simp [vlL]), by omega, by omega⟩
  rintro ⟨k, u⟩ e1 V0l σ0l hI0
  obtain ⟨rfl, rfl, i1, i2⟩ : Vf1 = V0l ∧ [(Arr 24 b1 [(.int .i64 A.v), na, (.int .i64 A.r)]), (Gr 3 1 u ((vlL A k).length) (((vlL A k).map (Value.int .i64))))] = σ0l ∧ 0 ≤ k ∧ k ≤ A.N.length := hI0
  change VC _ _ _ _ _ _ (upds 31 [(0, (.agg #[(.int .i64 A.v), na, (.int .i64 A.r)])), (1, (Value.pointer (some ⟨b1, 0, none⟩))), (2, (Value.slice none 0 0)), (3, (Value.int .i64 0)), (4, (.int .i64 (vE [A]))), (12, (.bool (decide ((vE [A]) ≠ 0)))), (15, na), (16, (.int .i64 ((A.N.length : Int)))), (5, u), (17, (Value.int .i64 k))] e1) _ _
  refine vc_seq ?_
  refine vc_res (σ' := [(Arr 24 b1 [(.int .i64 A.v), na, (.int .i64 A.r)]), (Gr 3 1 u ((vlL A k).length) (((vlL A k).map (Value.int .i64))))]) rfl ?_
  refine vc_region ?_
  refine oq (qv_lss rfl rfl) ?_
  refine ops_nil ?_
  refine vc_seq ?_
  refine vc_if rfl (fun c2 => ?_) (fun c2 => ?_)
  ·
   refine vc_skip ?_
   refine vc_seq ?_
   refine vc_block ?_
   refine vc_seq ?_
   refine vc_region ?_
   refine oq (qv_ias (v := na) (i := k) Try.underlying22 Try.size42 rfl hA rfl (by omega) (by omega)) ?_
   refine oq (qv_lds (v := na) (i := k) (vs := [(.int .i64 ((fk A.N (k)).v)), (.int .i64 ((fk A.N (k)).l)), (.int .i64 ((fk A.N (k)).h))]) Try.agg42 rfl hA (by omega) (by omega) (fks_at (N := A.N) (by omega) (by omega))) ?_
   refine ops_alloc Try.ti42 rfl (fun b3 => ?_)
   refine ops_stw (k := 2) (vs := [(.int .i64 ((fk A.N (k)).v)), (.int .i64 ((fk A.N (k)).l)), (.int .i64 ((fk A.N (k)).h))]) Try.size42 rfl rfl rfl rfl rfl rfl ?_
   refine ops_nil ?_
   refine vc_res (σ' := [(Arr 24 b1 [(.int .i64 A.v), na, (.int .i64 A.r)]), (Gr 3 1 u ((vlL A k).length) (((vlL A k).map (Value.int .i64)))), (Arr 42 b3 [(.int .i64 ((fk A.N (k)).v)), (.int .i64 ((fk A.N (k)).l)), (.int .i64 ((fk A.N (k)).h))])]) rfl ?_
   refine vc_region ?_
   refine oq (qv_mv u rfl) ?_
   refine oq (qv_fa (off := 0) Try.field42_0 rfl) ?_
   refine oq (qv_ldp (v := (.int .i64 ((fk A.N (k)).v))) Try.plain3 rfl (inOc (k := 2) rfl) rfl) ?_
   refine ops_lit (n := 1) (s := 1) (cs := [(.int .i64 ((fk A.N (k)).v))]) Try.underlying58 Try.ti3 (Nat.le_of_ble_eq_true rfl) rfl rfl rfl (Nat.le_of_ble_eq_true rfl) rfl (fun b4 => ?_)
   refine ops_append (k := 1) (n := (vlL A k).length) (s := 1) (m := 1) (v := u) (xs := ((vlL A k).map (Value.int .i64))) (news := [(.int .i64 ((fk A.N (k)).v))]) Try.underlying58 Try.ti3 rfl (Nat.le_of_ble_eq_true rfl) rfl rfl rfl rfl (news_own (j := 3) rfl) (by simp [Value.oneCell']) (by have := vlL_len (A := A) (k := k); first | omega | (simp only [maxLen]; omega)) (by have := vlL_len (A := A) (k := k); first | omega | (simp only [maxLen]; omega)) (fun v1 hn1 => ?_)
   refine oq (qv_as v1 rfl) ?_
   refine ops_nil ?_
   refine vc_res (σ' := [(Arr 24 b1 [(.int .i64 A.v), na, (.int .i64 A.r)]), (Gr 3 1 v1 (((vlL A k).length + 1)) ((((vlL A k).map (Value.int .i64)) ++ [(.int .i64 ((fk A.N (k)).v))]))), (Arr 42 b3 [(.int .i64 ((fk A.N (k)).v)), (.int .i64 ((fk A.N (k)).l)), (.int .i64 ((fk A.N (k)).h))]), (Arr 3 b4 [(.int .i64 ((fk A.N (k)).v))])]) rfl ?_
   refine vc_drop [(Arr 24 b1 [(Value.int .i64 (A.v)), na, (Value.int .i64 (A.r))]), (Gr 3 1 v1 (((vlL A k).length + 1)) ((((vlL A k).map (Value.int .i64)) ++ [(Value.int .i64 ((fk A.N (k)).v))]))), (Arr 42 b3 [(Value.int .i64 ((fk A.N (k)).v)), (Value.int .i64 ((fk A.N (k)).l)), (Value.int .i64 ((fk A.N (k)).h))])] [(Arr 3 b4 [(Value.int .i64 ((fk A.N (k)).v))])] ((List.perm_middle (l₁ := [(Arr 24 b1 [(Value.int .i64 (A.v)), na, (Value.int .i64 (A.r))]), (Gr 3 1 v1 (((vlL A k).length + 1)) ((((vlL A k).map (Value.int .i64)) ++ [(Value.int .i64 ((fk A.N (k)).v))]))), (Arr 42 b3 [(Value.int .i64 ((fk A.N (k)).v)), (Value.int .i64 ((fk A.N (k)).l)), (Value.int .i64 ((fk A.N (k)).h))])]) (l₂ := [])).trans (List.perm_append_comm (l₁ := [(Arr 3 b4 [(Value.int .i64 ((fk A.N (k)).v))])]))) ?_
   refine vc_drop [(Arr 24 b1 [(Value.int .i64 (A.v)), na, (Value.int .i64 (A.r))]), (Gr 3 1 v1 (((vlL A k).length + 1)) ((((vlL A k).map (Value.int .i64)) ++ [(Value.int .i64 ((fk A.N (k)).v))])))] [(Arr 42 b3 [(Value.int .i64 ((fk A.N (k)).v)), (Value.int .i64 ((fk A.N (k)).l)), (Value.int .i64 ((fk A.N (k)).h))])] ((List.perm_middle (l₁ := [(Arr 24 b1 [(Value.int .i64 (A.v)), na, (Value.int .i64 (A.r))]), (Gr 3 1 v1 (((vlL A k).length + 1)) ((((vlL A k).map (Value.int .i64)) ++ [(Value.int .i64 ((fk A.N (k)).v))])))]) (l₂ := [])).trans (List.perm_append_comm (l₁ := [(Arr 42 b3 [(Value.int .i64 ((fk A.N (k)).v)), (Value.int .i64 ((fk A.N (k)).l)), (Value.int .i64 ((fk A.N (k)).h))])]))) ?_
   refine vc_region ?_
   refine oq (qv_add rfl rfl (by omega)) ?_
   refine oq (qv_mv (.int .i64 (k + 1)) rfl) ?_
   refine ops_nil ?_
   refine ⟨(k + 1, v1), ⟨rfl, rfl, rfl, rfl, rfl, rfl, rfl, rfl, rfl, (congrArg (Value.int .i64) (show (k + 1) = ((k + 1)) from by omega)), trivial⟩, ⟨rfl, (show [(Arr 24 b1 [(.int .i64 A.v), na, (.int .i64 A.r)]), (Gr 3 1 v1 ((vlL A (k + 1)).length) (((vlL A (k + 1)).map (Value.int .i64))))] = [(Arr 24 b1 [(.int .i64 A.v), na, (.int .i64 A.r)]), (Gr 3 1 v1 (((vlL A k).length + 1)) ((((vlL A k).map (Value.int .i64)) ++ [(.int .i64 ((fk A.N (k)).v))])))] from by rw [vlL_step (by omega) (by omega), List.length_append, List.map_append]; rfl), by omega, by omega⟩, by omega⟩
  ·
   refine vc_exit ?_
   refine blockQ_hit ?_
   refine vc_seq ?_
   refine vc_region ?_
   refine oq (qv_mv u rfl) ?_
   refine ops_call (σa := [(Gr 3 1 u ((vlL A k).length) (((vlL A k).map (Value.int .i64))))]) (σr := [(Arr 24 b1 [(.int .i64 A.v), na, (.int .i64 A.r)])]) (Sort_c (zs := (vlL A k)) (by have := vlL_len (A := A) (k := k); omega)) rfl rfl (perm_idx _ _ [1, 0] rfl rfl) (fun r1 V1 sg1 hV1 hp1 => ?_)
   obtain ⟨rfl, hVV, rfl⟩ := hp1
   have hA := hA.mono hV1
   have hc1 := hc1.mono hV1
   refine ops_perm (σ' := [(Arr 24 b1 [(.int .i64 A.v), na, (.int .i64 A.r)]), (Gr 3 1 u ((vlL A k).length) (((srt (vlL A k)).map (Value.int .i64))))]) (perm_idx _ _ [1, 0] rfl rfl) ?_
   refine ops_nil ?_
   refine vc_seq ?_
   refine vc_res (σ' := [(Arr 24 b1 [(.int .i64 A.v), na, (.int .i64 A.r)]), (Gr 3 1 u ((vlL A k).length) (((srt (vlL A k)).map (Value.int .i64))))]) rfl ?_
   refine vc_region ?_
   refine oq (qv_mv u rfl) ?_
   refine ops_call (σa := [(Gr 3 1 u ((vlL A k).length) (((srt (vlL A k)).map (Value.int .i64))))]) (σr := [(Arr 24 b1 [(.int .i64 A.v), na, (.int .i64 A.r)])]) (by have h := Compact_c (V := V1) (v := u) (zs := srt (vlL A k)) (by rw [srt_len]; have := vlL_len (A := A) (k := k); omega); rw [srt_len] at h; exact h) rfl rfl (perm_idx _ _ [1, 0] rfl rfl) (fun r2 V2 sg2 hV2 hp2 => ?_)
   obtain ⟨hVV2, rfl⟩ := hp2
   have hA := hA.mono hV2
   have hc1 := hc1.mono hV2
   refine ops_perm (σ' := [(Arr 24 b1 [(.int .i64 A.v), na, (.int .i64 A.r)]), (Gr 3 1 r2 ((Lib.compact (srt (vlL A k))).length) (((Lib.compact (srt (vlL A k))).map (Value.int .i64))))]) (perm_idx _ _ [1, 0] rfl rfl) ?_
   refine oq (qv_as r2 rfl) ?_
   refine oq (qv_as (Value.int .i64 0) rfl) ?_
   refine ops_nil ?_
   refine vc_freezeG (v := r2) (E := 3) (n := (Lib.compact (srt (vlL A k))).length) (xs := ((Lib.compact (srt (vlL A k))).map (Value.int .i64))) (σr := [(Arr 24 b1 [(Value.int .i64 (A.v)), na, (Value.int .i64 (A.r))])]) (List.perm_middle (l₁ := [(Arr 24 b1 [(Value.int .i64 (A.v)), na, (Value.int .i64 (A.r))])]) (l₂ := [])) (fun Vf2 hVf2 hc2 => ?_)
   have hA := hA.mono hVf2
   have hc1 := hc1.mono hVf2
   refine vc_drop [] [(Arr 24 b1 [(.int .i64 A.v), na, (.int .i64 A.r)])] (.refl _) ?_
   refine vc_ret ?_
   refine rq2 r2 (Value.int .i64 0) rfl rfl ?_
   rw [su_0 hz, hz]
   have hcq := hc2
   rw [vlL_all (by omega)] at hcq
   exact ⟨rfl, _, rfl, hcq⟩

end Go.Proofs.Ytgehdgeiikjohaa
