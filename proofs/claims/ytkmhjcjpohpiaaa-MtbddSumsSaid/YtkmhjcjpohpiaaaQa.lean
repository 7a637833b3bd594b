import Derived.Test.YtkmhjcjpohpiaaaPb
import Derived.Test.YtkmhjcjpohpiaaaWo
import Derived.Test.YtkmhjcjpohpiaaaMn
import Derived.Test.YtkmhjcjpohpiaaaMv
/- Walks of mtbdd: what each function returns. Printed by a program out of notes. -/
namespace Go.Proofs.Ytkmhjcjpohpiaaa
open Go.Vc
open Classical

set_option maxRecDepth 100000 in
set_option maxHeartbeats 4000000 in
theorem Sums_c {V : HV} {wv ov : Value} {W O : List Int} (hW : Ints .i64 V wv W) (hO : Ints .u8 V ov O) (hu : ∀ z ∈ O, 0 ≤ z ∧ z ≤ 255) :
    FnC Try.prog 5 [wv, ov] V [] (fun v _ _ => v = (Value.bool true)) := by
 refine fn_intro (N := 211) Try.func5 (by kernel_rfl) rfl rfl rfl (Nat.le_of_ble_eq_true rfl) ?_
 intro w0 D
 have hbw := hW.bound
 have hbo := hO.bound
 refine vc_seq ?_
 refine vc_region ?_
 refine oq (qv_as (Value.bool false) rfl) ?_
 refine ops_nil ?_
 refine vc_seq ?_
 refine vc_seq ?_
 refine vc_region ?_
 refine oq (qv_call (v := (Value.bool true)) (known_c) rfl rfl) ?_
 refine oq (qv_notc rfl) ?_
 refine ops_nil ?_
 refine vc_ff rfl ?_
 refine vc_skip ?_
 refine vc_seq ?_
 refine vc_region ?_
 refine oq (qv_as (Value.int .i64 0) rfl) ?_
 refine ops_nil ?_
 refine vc_seq ?_
 refine vc_block ?_
 refine vc_loop (α := Int) (fun (xx : Int) => [(0, wv), (1, ov), (4, (Value.bool false)), (27, (Value.bool false)), (5, (Value.int .i64 xx))]) (fun (xx : Int) V' σ' => V = V' ∧ [] = σ' ∧ 0 ≤ xx ∧ (2 : Int) ^ xx.toNat ≤ 64) (fun (xx : Int) => (7 - xx).toNat) (0) ?_ ?_ ?_
 · exact ⟨rfl, rfl, rfl, rfl, rfl, trivial⟩
 · exact ⟨rfl, rfl, by omega, by decide⟩
 rintro n e1 V0l σ0l hI0
 obtain ⟨rfl, rfl, hn0, hp64⟩ : V = V0l ∧ [] = σ0l ∧ 0 ≤ n ∧ (2 : Int) ^ n.toNat ≤ 64 := hI0
 refine vc_seq ?_
 refine vc_seq ?_
 have hp0 : (0 : Int) < 2 ^ n.toNat := Int.pow_pos (by omega)
 have h6 := pow64 hn0 hp64
 refine vc_region ?_
 refine oq (qv_mv (Value.int .i64 n) rfl) ?_
 refine oq (qv_shli rfl rfl (by omega) (by omega) (by omega)) ?_
 refine oq (qv_mv wv rfl) ?_
 refine oq (qv_lenI Try.underlying22 rfl hW) ?_
 refine oq (qv_min rfl rfl) ?_
 refine oq (qv_leq rfl rfl) ?_
 refine ops_nil ?_
 refine vc_if rfl (fun c1 => ?_) (fun c1 => ?_)
 ·
  refine vc_skip ?_
  refine vc_block ?_
  have hp2 : 2 * (2 : Int) ^ n.toNat ≤ 64 := by have q := c1; split at q <;> omega
  have hps := pow_s hn0
  refine vc_region ?_
  refine oq (qv_mv (Value.int .i64 n) rfl) ?_
  refine oq (qv_add rfl rfl (by omega)) ?_
  refine oq (qv_as (.int .i64 (n + 1)) rfl) ?_
  refine ops_nil ?_
  refine ⟨(n + 1), ⟨rfl, rfl, rfl, rfl, (congrArg (Value.int .i64) (show (n + 1) = ((n + 1)) from by omega)), trivial⟩, ⟨rfl, rfl, by omega, by rw [hps]; exact hp2⟩, by omega⟩
 ·
  refine vc_exit ?_
  refine blockQ_hit ?_
  refine vc_seq ?_
  have h6 := pow64 hn0 hp64
  have hp0 : (0 : Int) < 2 ^ n.toNat := Int.pow_pos (by omega)
  have hTr : (List.replicate ((2 : Int) ^ (n : Int).toNat).toNat (0 : Int)).length = ((2 : Int) ^ n.toNat).toNat := List.length_replicate ..
  refine vc_region ?_
  refine oq (qv_mv (Value.int .i64 n) rfl) ?_
  refine oq (qv_to (by rw [Int.one_mul]) (qv_shli rfl rfl (by omega) (by omega) (by omega))) ?_
  refine ops_make (n := (2 : Int) ^ (n : Int).toNat) Try.underlying22 Try.ti3 rfl rfl rfl rfl (by omega) (by omega) (by omega) (fun b1 => ?_)
  let ζ2 : Value := .slice (some ⟨b1, 0, none⟩) ((2 : Int) ^ (n : Int).toNat).toNat ((2 : Int) ^ (n : Int).toNat).toNat
  refine oq (qv_as ζ2 rfl) ?_
  refine ops_nil ?_
  refine vc_seq ?_
  refine vc_res (σ' := [(Arr 3 b1 (List.replicate ((2 : Int) ^ (n : Int).toNat).toNat (Value.int .i64 0)))]) rfl ?_
  refine vc_region ?_
  refine oq (qv_as (Value.int .i64 0) rfl) ?_
  refine ops_nil ?_
  refine vc_seq ?_
  refine vc_seq ?_
  refine vc_region ?_
  refine oq (qv_mv ζ2 rfl) ?_
  refine oq (qv_len Try.underlying22 rfl rfl) ?_
  refine oq (qv_mv (Value.int .i64 0) rfl) ?_
  refine ops_nil ?_
  refine vc_block ?_
  refine vc_loop (α := Int × Int × List Int) (fun (xx : Int × Int × List Int) => [(0, wv), (1, ov), (4, (Value.bool false)), (5, (Value.int .i64 n)), (6, (.slice (some ⟨b1, 0, none⟩) ((2 : Int) ^ (n : Int).toNat).toNat ((2 : Int) ^ (n : Int).toNat).toNat)), (27, (Value.bool false)), (33, (.bool (decide ((2 * (2 : Int) ^ (n : Int).toNat) ≤ (if 64 < ((W.length : Int)) then 64 else (W.length : Int)))))), (40, (.int .i64 ((((2 : Int) ^ (n : Int).toNat).toNat : Int)))), (7, (Value.int .i64 xx.2.1)), (41, (Value.int .i64 xx.1))]) (fun (xx : Int × Int × List Int) V' σ' => V = V' ∧ [(Arr 3 b1 (xx.2.2.map (Value.int .i64)))] = σ' ∧ 0 ≤ xx.1 ∧ xx.1 ≤ (2 : Int) ^ n.toNat ∧ (xx.2.2.length : Int) = 2 ^ n.toNat ∧ (∀ x : Int, 0 ≤ x → x < xx.2.2.length → -1048576 ≤ gi xx.2.2 x ∧ gi xx.2.2 x ≤ 1048576) ∧ (∀ x : Int, xx.1 ≤ x → x < xx.2.2.length → gi xx.2.2 x = 0) ∧ xx.2.1 = sumL (xx.2.2.take xx.1.toNat) ∧ -1048576 * xx.1 ≤ xx.2.1 ∧ xx.2.1 ≤ 1048576 * xx.1) (fun (xx : Int × Int × List Int) => ((2 : Int) ^ n.toNat - xx.1).toNat) (0, 0, (List.replicate ((2 : Int) ^ (n : Int).toNat).toNat (0 : Int))) ?_ ?_ ?_
  · exact ⟨rfl, rfl, rfl, rfl, rfl, rfl, rfl, rfl, rfl, rfl, trivial⟩
  · subst ζ2; exact (show V = V ∧ [(Arr 3 b1 (((List.replicate ((2 : Int) ^ (n : Int).toNat).toNat (0 : Int)) : List Int).map (Value.int .i64)))] = [(Arr 3 b1 (List.replicate ((2 : Int) ^ (n : Int).toNat).toNat (Value.int .i64 0)))] ∧ 0 ≤ (0 : Int) ∧ (0 : Int) ≤ (2 : Int) ^ n.toNat ∧ (((List.replicate ((2 : Int) ^ (n : Int).toNat).toNat (0 : Int)) : List Int).length : Int) = 2 ^ n.toNat ∧ (∀ x : Int, 0 ≤ x → x < ((List.replicate ((2 : Int) ^ (n : Int).toNat).toNat (0 : Int)) : List Int).length → -1048576 ≤ gi ((List.replicate ((2 : Int) ^ (n : Int).toNat).toNat (0 : Int)) : List Int) x ∧ gi ((List.replicate ((2 : Int) ^ (n : Int).toNat).toNat (0 : Int)) : List Int) x ≤ 1048576) ∧ (∀ x : Int, (0 : Int) ≤ x → x < ((List.replicate ((2 : Int) ^ (n : Int).toNat).toNat (0 : Int)) : List Int).length → gi ((List.replicate ((2 : Int) ^ (n : Int).toNat).toNat (0 : Int)) : List Int) x = 0) ∧ (0 : Int) = sumL (((List.replicate ((2 : Int) ^ (n : Int).toNat).toNat (0 : Int)) : List Int).take (0 : Int).toNat) ∧ -1048576 * (0 : Int) ≤ (0 : Int) ∧ (0 : Int) ≤ 1048576 * (0 : Int) from ⟨rfl, (show [(Arr 3 b1 (((List.replicate ((2 : Int) ^ (n : Int).toNat).toNat (0 : Int)) : List Int).map (Value.int .i64)))] = [(Arr 3 b1 (List.replicate ((2 : Int) ^ (n : Int).toNat).toNat (Value.int .i64 0)))] from by rw [List.map_replicate]), by omega, by omega, by rw [hTr]; omega, fun x a b => by rw [gi_rep0]; omega, fun x a b => gi_rep0, rfl, by omega, by omega⟩)
  rintro ⟨i, tot, T⟩ e2 V1l σ1l hI1
  obtain ⟨rfl, rfl, i1, i2, hTl, hTb, hT0, htot, i3, i4⟩ : V = V1l ∧ [(Arr 3 b1 (T.map (Value.int .i64)))] = σ1l ∧ 0 ≤ i ∧ i ≤ (2 : Int) ^ n.toNat ∧ (T.length : Int) = 2 ^ n.toNat ∧ (∀ x : Int, 0 ≤ x → x < T.length → -1048576 ≤ gi T x ∧ gi T x ≤ 1048576) ∧ (∀ x : Int, i ≤ x → x < T.length → gi T x = 0) ∧ tot = sumL (T.take i.toNat) ∧ -1048576 * i ≤ tot ∧ tot ≤ 1048576 * i := hI1
  change VC _ _ _ _ _ _ (upds 211 [(0, wv), (1, ov), (4, (Value.bool false)), (5, (Value.int .i64 n)), (6, ζ2), (27, (Value.bool false)), (33, (.bool (decide ((2 * (2 : Int) ^ (n : Int).toNat) ≤ (if 64 < ((W.length : Int)) then 64 else (W.length : Int)))))), (40, (.int .i64 ((((2 : Int) ^ (n : Int).toNat).toNat : Int)))), (7, (Value.int .i64 tot)), (41, (Value.int .i64 i))] e2) _ _
  refine vc_seq ?_
  refine vc_res (σ' := [(Arr 3 b1 (T.map (Value.int .i64)))]) rfl ?_
  refine vc_region ?_
  refine oq (qv_lss rfl rfl) ?_
  refine ops_nil ?_
  refine vc_seq ?_
  refine vc_if rfl (fun c2 => ?_) (fun c2 => ?_)
  ·
   refine vc_skip ?_
   refine vc_seq ?_
   refine vc_block ?_
   refine vc_seq ?_
   refine vc_region ?_
   refine oq (qv_mv (Value.int .i64 i) rfl) ?_
   refine oq (qv_as (Value.int .i64 i) rfl) ?_
   refine ops_nil ?_
   refine vc_seq ?_
   refine vc_seq ?_
   refine vc_region ?_
   refine oq (qv_mv (Value.int .i64 i) rfl) ?_
   refine oq (qv_mv wv rfl) ?_
   refine oq (qv_lenI Try.underlying22 rfl hW) ?_
   refine oq (qv_lss rfl rfl) ?_
   refine ops_nil ?_
   refine vc_if rfl (fun c3 => ?_) (fun c3 => ?_)
   ·
    have htm := tm_bd (gi W i)
    have htm1 := htm.1
    have htm2 := htm.2
    refine vc_region ?_
    refine oq (qv_mv ζ2 rfl) ?_
    refine oq (qv_mv (Value.int .i64 i) rfl) ?_
    refine oq (qv_mv wv rfl) ?_
    refine oq (qv_mv (Value.int .i64 i) rfl) ?_
    subst ζ2
    refine oq (qv_iai (v := wv) (i := i) Try.underlying22 Try.size3 rfl (inVi hW) rfl (by omega) (by first | omega | (simp only [List.length_map, List.length_set]; omega))) ?_
    refine oq (qv_ldi (v := wv) (i := i) Try.plain3 rfl (inVi hW) (by omega) (by first | omega | (simp only [List.length_map, List.length_set]; omega))) ?_
    refine oq (qv_remk (r := (gi W i).tmod 1048576) rfl rfl (by omega) (by rfl)) ?_
    refine oq (qv_ia (v := (.slice (some ⟨b1, 0, none⟩) ((2 : Int) ^ (n : Int).toNat).toNat ((2 : Int) ^ (n : Int).toNat).toNat)) (i := i) Try.underlying22 Try.size3 rfl (inO (k := 0) rfl (by first | (simp only [List.length_map]; omega) | (simp only [List.length_map, List.length_set]; omega) | (simp only [List.length_replicate]; done)) (Nat.le_refl _) (by omega)) rfl (by omega) (by first | omega | (simp only [List.length_map, List.length_set]; omega))) ?_
    refine ops_ste (k := 0) (b := b1) (n := ((2 : Int) ^ (n : Int).toNat).toNat) (c := ((2 : Int) ^ (n : Int).toNat).toNat) (i := i) (cs := (T.map (Value.int .i64))) Try.size3 rfl (rfl : ev _ _ = (.int .i64 ((gi W i).tmod 1048576))) rfl rfl (by omega) (by first | omega | (simp only [List.length_map, List.length_set]; omega)) ?_
    refine ops_nil ?_
    refine vc_res (σ' := [(Arr 3 b1 (((T.map (Value.int .i64))).set (i).toNat (.int .i64 ((gi W i).tmod 1048576))))]) rfl ?_
    have hTi := hTb i (by omega) (by omega)
    refine vc_region ?_
    refine oq (qv_mv (Value.int .i64 tot) rfl) ?_
    refine oq (qv_mv (.slice (some ⟨b1, 0, none⟩) ((2 : Int) ^ (n : Int).toNat).toNat ((2 : Int) ^ (n : Int).toNat).toNat) rfl) ?_
    refine oq (qv_mv (Value.int .i64 i) rfl) ?_
    refine oq (qv_ia (v := (.slice (some ⟨b1, 0, none⟩) ((2 : Int) ^ (n : Int).toNat).toNat ((2 : Int) ^ (n : Int).toNat).toNat)) (i := i) Try.underlying22 Try.size3 rfl (inO (k := 0) rfl (by first | (simp only [List.length_map]; omega) | (simp only [List.length_map, List.length_set]; omega) | (simp only [List.length_replicate]; done)) (Nat.le_refl _) (by omega)) rfl (by omega) (by first | omega | (simp only [List.length_map, List.length_set]; omega))) ?_
    refine oq (qv_ldv (u := (.int .i64 ((gi W i).tmod 1048576))) (v := (.slice (some ⟨b1, 0, none⟩) ((2 : Int) ^ (n : Int).toNat).toNat ((2 : Int) ^ (n : Int).toNat).toNat)) (i := i) Try.plain3 rfl (inO (k := 0) rfl (by first | (simp only [List.length_map]; omega) | (simp only [List.length_map, List.length_set]; omega) | (simp only [List.length_replicate]; done)) (Nat.le_refl _) (by omega)) (by omega) (by first | omega | (simp only [List.length_map, List.length_set]; omega)) (by rw [mset]; exact gv_map_set (by omega) (by omega))) ?_
    refine oq (qv_add rfl rfl (by omega)) ?_
    refine oq (qv_as (.int .i64 (tot + ((gi W i).tmod 1048576))) rfl) ?_
    refine ops_nil ?_
    refine vc_region ?_
    refine oq (qv_add rfl rfl (by omega)) ?_
    refine oq (qv_mv (.int .i64 (i + 1)) rfl) ?_
    refine ops_nil ?_
    refine ⟨(i + 1, (tot + (gi W i).tmod 1048576), (T.set i.toNat ((gi W i).tmod 1048576))), ⟨rfl, rfl, rfl, rfl, rfl, rfl, rfl, rfl, (congrArg (Value.int .i64) (show (tot + ((gi W i).tmod 1048576)) = (((tot + (gi W i).tmod 1048576))) from by omega)), (congrArg (Value.int .i64) (show (i + 1) = ((i + 1)) from by omega)), trivial⟩, (show V = V ∧ [(Arr 3 b1 (((T.set i.toNat ((gi W i).tmod 1048576)) : List Int).map (Value.int .i64)))] = [(Arr 3 b1 (((T.map (Value.int .i64))).set (i).toNat (.int .i64 ((gi W i).tmod 1048576))))] ∧ 0 ≤ (i + 1 : Int) ∧ (i + 1 : Int) ≤ (2 : Int) ^ n.toNat ∧ (((T.set i.toNat ((gi W i).tmod 1048576)) : List Int).length : Int) = 2 ^ n.toNat ∧ (∀ x : Int, 0 ≤ x → x < ((T.set i.toNat ((gi W i).tmod 1048576)) : List Int).length → -1048576 ≤ gi ((T.set i.toNat ((gi W i).tmod 1048576)) : List Int) x ∧ gi ((T.set i.toNat ((gi W i).tmod 1048576)) : List Int) x ≤ 1048576) ∧ (∀ x : Int, (i + 1 : Int) ≤ x → x < ((T.set i.toNat ((gi W i).tmod 1048576)) : List Int).length → gi ((T.set i.toNat ((gi W i).tmod 1048576)) : List Int) x = 0) ∧ ((tot + (gi W i).tmod 1048576) : Int) = sumL (((T.set i.toNat ((gi W i).tmod 1048576)) : List Int).take (i + 1 : Int).toNat) ∧ -1048576 * (i + 1 : Int) ≤ ((tot + (gi W i).tmod 1048576) : Int) ∧ ((tot + (gi W i).tmod 1048576) : Int) ≤ 1048576 * (i + 1 : Int) from ⟨rfl, (show [(Arr 3 b1 (((T.set i.toNat ((gi W i).tmod 1048576)) : List Int).map (Value.int .i64)))] = [(Arr 3 b1 (((T.map (Value.int .i64))).set (i).toNat (.int .i64 ((gi W i).tmod 1048576))))] from by first | rfl | rw [mset]), by omega, by omega, by rw [List.length_set]; exact hTl, fun x a b => by rw [gi_set (by omega) (by omega) a]; split; exact ⟨by omega, by omega⟩; exact hTb x a (by rw [List.length_set] at b; exact b), fun x a b => by rw [List.length_set] at b; rw [gi_set (by omega) (by omega) (by omega), if_neg (by omega)]; exact hT0 x (by omega) b, by rw [tk_set (by omega) (by omega), htot], by omega, by omega⟩), show ((2 : Int) ^ n.toNat - (i + 1)).toNat < ((2 : Int) ^ n.toNat - i).toNat from by omega⟩
   ·
    refine vc_skip ?_
    have hTi := hTb i (by omega) (by omega)
    refine vc_region ?_
    refine oq (qv_mv (Value.int .i64 tot) rfl) ?_
    refine oq (qv_mv ζ2 rfl) ?_
    refine oq (qv_mv (Value.int .i64 i) rfl) ?_
    subst ζ2
    refine oq (qv_ia (v := (.slice (some ⟨b1, 0, none⟩) ((2 : Int) ^ (n : Int).toNat).toNat ((2 : Int) ^ (n : Int).toNat).toNat)) (i := i) Try.underlying22 Try.size3 rfl (inO (k := 0) rfl (by first | (simp only [List.length_map]; omega) | (simp only [List.length_map, List.length_set]; omega) | (simp only [List.length_replicate]; done)) (Nat.le_refl _) (by omega)) rfl (by omega) (by first | omega | (simp only [List.length_map, List.length_set]; omega))) ?_
    refine oq (qv_ldv (u := (.int .i64 (gi T (i)))) (v := (.slice (some ⟨b1, 0, none⟩) ((2 : Int) ^ (n : Int).toNat).toNat ((2 : Int) ^ (n : Int).toNat).toNat)) (i := i) Try.plain3 rfl (inO (k := 0) rfl (by first | (simp only [List.length_map]; omega) | (simp only [List.length_map, List.length_set]; omega) | (simp only [List.length_replicate]; done)) (Nat.le_refl _) (by omega)) (by omega) (by first | omega | (simp only [List.length_map, List.length_set]; omega)) (gvm (by omega) (by omega))) ?_
    refine oq (qv_add rfl rfl (by omega)) ?_
    refine oq (qv_as (.int .i64 (tot + (gi T (i)))) rfl) ?_
    refine ops_nil ?_
    refine vc_region ?_
    refine oq (qv_add rfl rfl (by omega)) ?_
    refine oq (qv_mv (.int .i64 (i + 1)) rfl) ?_
    refine ops_nil ?_
    refine ⟨(i + 1, (tot + gi T i), T), ⟨rfl, rfl, rfl, rfl, rfl, rfl, rfl, rfl, (congrArg (Value.int .i64) (show (tot + (gi T (i))) = (((tot + gi T i))) from by omega)), (congrArg (Value.int .i64) (show (i + 1) = ((i + 1)) from by omega)), trivial⟩, (show V = V ∧ [(Arr 3 b1 (T.map (Value.int .i64)))] = [(Arr 3 b1 (T.map (Value.int .i64)))] ∧ 0 ≤ (i + 1 : Int) ∧ (i + 1 : Int) ≤ (2 : Int) ^ n.toNat ∧ (T.length : Int) = 2 ^ n.toNat ∧ (∀ x : Int, 0 ≤ x → x < T.length → -1048576 ≤ gi T x ∧ gi T x ≤ 1048576) ∧ (∀ x : Int, (i + 1 : Int) ≤ x → x < T.length → gi T x = 0) ∧ ((tot + gi T i) : Int) = sumL (T.take (i + 1 : Int).toNat) ∧ -1048576 * (i + 1 : Int) ≤ ((tot + gi T i) : Int) ∧ ((tot + gi T i) : Int) ≤ 1048576 * (i + 1 : Int) from ⟨rfl, (show [(Arr 3 b1 ((T : List Int).map (Value.int .i64)))] = [(Arr 3 b1 (T.map (Value.int .i64)))] from by first | rfl | rw [mset]), by omega, by omega, hTl, hTb, fun x a b => hT0 x (by omega) b, by rw [sumL_take (by omega) (by omega), htot], by omega, by omega⟩), show ((2 : Int) ^ n.toNat - (i + 1)).toNat < ((2 : Int) ^ n.toNat - i).toNat from by omega⟩
  ·
   refine vc_exit ?_
   refine blockQ_hit ?_
   refine vc_seq ?_
   skip
   refine vc_freeze (b := b1) (o := .cells ((T.map (Value.int .i64)) : List Value).toArray 3 (0, 0)) (σr := []) (List.perm_middle (l₁ := []) (l₂ := [])) (fun Vf1 hVf1 hb1 => ?_)
   have hc1 : Cells Vf1 b1 (T.map (Value.int .i64)) := ⟨_, _, hb1⟩
   have hW := hW.mono hVf1
   have hO := hO.mono hVf1
   refine vc_region ?_
   refine oq (qv_mv (Value.int .i64 n) rfl) ?_
   refine oq (qv_mv ζ2 rfl) ?_
   have hT : Ints .i64 Vf1 ζ2 T := ints_cells hc1 (by omega) (Nat.le_refl _) (by omega)
   obtain ⟨hft0, hokA0, hvA0, hvt0, hbA0⟩ := ft_facts hn0 h6 (by omega) hTb
   obtain ⟨A0, hA0⟩ : ∃ X, X = ftD n T := ⟨_, rfl⟩
   subst ζ2
   rw [← hA0] at hokA0 hvA0 hvt0 hbA0
   have hokA := hokA0
   have htot2 : tot = sumL (vT A0) := by rw [hvt0, htot, List.take_of_length_le (by omega)]
   have hS0 : SInv n tot (upr 0 n.toNat) A0 := by rw [htot2]; exact sInv_0 hokA hvA0 (by omega) hbA0 h6
   refine ops_call (σa := []) (σr := []) (by have h := FromTable_c (vars := n) hT; rw [hft0, ← hA0] at h; exact h) rfl rfl (.refl _) (fun r1 V1 sg1 hV1 hp1 => ?_)
   obtain ⟨rfl, lva, nva, rfl, hMa⟩ := hp1
   have hW := hW.mono hV1
   have hO := hO.mono hV1
   have hc1 := hc1.mono hV1
   have hT := hT.mono hV1
   refine oq (qv_mv (.tuple #[(.agg #[(.int .i64 A0.v), lva, nva, (.int .i64 A0.r)]), (Value.int .i64 0)]) rfl) ?_
   refine oq (qv_ext (.agg #[(.int .i64 A0.v), lva, nva, (.int .i64 A0.r)]) rfl rfl) ?_
   refine oq (qv_ext (Value.int .i64 0) rfl rfl) ?_
   refine ops_alloc Try.ti25 rfl (fun b2 => ?_)
   refine ops_stw (k := 0) (vs := [(.int .i64 A0.v), lva, nva, (.int .i64 A0.r)]) Try.size25 rfl rfl rfl (allc rfl (allc (Sl.one hMa.l) (allc (SlS.one hMa.n) (allc rfl rfl)))) rfl rfl ?_
   refine oq (qv_as (Value.int .i64 0) rfl) ?_
   refine ops_nil ?_
   refine vc_seq ?_
   refine vc_seq ?_
   let ζ1 : Asrt := Arr 25 b2 [(.int .i64 A0.v), lva, nva, (.int .i64 A0.r)]
   refine vc_res (σ' := [ζ1]) rfl ?_
   refine vc_region ?_
   refine oq (qv_mv (Value.int .i64 0) rfl) ?_
   refine oq (qv_neq rfl rfl) ?_
   refine ops_nil ?_
   refine vc_if rfl (fun c4 => ?_) (fun c4 => ?_)
   ·
    omega
   ·
    refine vc_skip ?_
    refine vc_seq ?_
    refine vc_nil 3 1 ?_
    refine vc_region ?_
    refine oq (qv_as (Value.slice none 0 0) rfl) ?_
    refine ops_nil ?_
    refine vc_seq ?_
    refine vc_seq ?_
    refine vc_res (σ' := [ζ1, (Gr 3 1 ((Value.slice none 0 0)) 0 ([]))]) rfl ?_
    refine vc_region ?_
    refine oq (qv_mv (Value.int .i64 n) rfl) ?_
    refine oq (qv_mv (Value.int .i64 0) rfl) ?_
    refine ops_nil ?_
    refine vc_block ?_
    refine vc_loop (α := Int × Value) (fun (xx : Int × Value) => [(0, wv), (1, ov), (4, (Value.bool false)), (5, (Value.int .i64 n)), (6, (.slice (some ⟨b1, 0, none⟩) ((2 : Int) ^ (n : Int).toNat).toNat ((2 : Int) ^ (n : Int).toNat).toNat)), (7, (Value.int .i64 tot)), (9, (Value.pointer (some ⟨b2, 0, none⟩))), (10, (Value.int .i64 0)), (27, (Value.bool false)), (33, (.bool (decide ((2 * (2 : Int) ^ (n : Int).toNat) ≤ (if 64 < ((W.length : Int)) then 64 else (W.length : Int)))))), (40, (.int .i64 ((((2 : Int) ^ (n : Int).toNat).toNat : Int)))), (41, (Value.int .i64 i)), (42, (.bool (decide (i < ((((2 : Int) ^ (n : Int).toNat).toNat : Int)))))), (70, (.bool (decide (0 ≠ 0)))), (71, (Value.int .i64 n)), (11, xx.2), (72, (Value.int .i64 xx.1))]) (fun (xx : Int × Value) V' σ' => V1 = V' ∧ [ζ1, (Gr 3 1 xx.2 ((upr 0 xx.1.toNat).length) (((upr 0 xx.1.toNat).map (Value.int .i64))))] = σ' ∧ 0 ≤ xx.1 ∧ xx.1 ≤ n) (fun (xx : Int × Value) => (n - xx.1).toNat) (0, (Value.slice none 0 0)) ?_ ?_ ?_
    · subst ζ1; exact ⟨rfl, rfl, rfl, rfl, rfl, rfl, rfl, rfl, rfl, rfl, rfl, rfl, rfl, rfl, rfl, (by first | rfl | (first | omega | simp)), rfl, trivial⟩
    · exact ⟨rfl, (show [ζ1, (Gr 3 1 ((Value.slice none 0 0)) ((upr 0 (0 : Int).toNat).length) (((upr 0 (0 : Int).toNat).map (Value.int .i64))))] = [ζ1, (Gr 3 1 ((Value.slice none 0 0)) 0 ([]))] from by rfl), by omega, by omega⟩
    rintro ⟨q, rv⟩ e3 V2l σ2l hI2
    let ζ11 : Asrt := Gr 3 1 rv ((upr 0 q.toNat).length) (((upr 0 q.toNat).map (Value.int .i64)))
    obtain ⟨rfl, rfl, i5, i6⟩ : V1 = V2l ∧ [ζ1, ζ11] = σ2l ∧ 0 ≤ q ∧ q ≤ n := hI2
    let ζ2 : Value := .slice (some ⟨b1, 0, none⟩) ((2 : Int) ^ (n : Int).toNat).toNat ((2 : Int) ^ (n : Int).toNat).toNat
    let ζ12 : Value := .bool (decide ((2 * (2 : Int) ^ (n : Int).toNat) ≤ (if 64 < ((W.length : Int)) then 64 else (W.length : Int))))
    change VC _ _ _ _ _ _ (upds 211 [(0, wv), (1, ov), (4, (Value.bool false)), (5, (Value.int .i64 n)), (6, ζ2), (7, (Value.int .i64 tot)), (9, (Value.pointer (some ⟨b2, 0, none⟩))), (10, (Value.int .i64 0)), (27, (Value.bool false)), (33, ζ12), (40, (.int .i64 ((((2 : Int) ^ (n : Int).toNat).toNat : Int)))), (41, (Value.int .i64 i)), (42, (.bool (decide (i < ((((2 : Int) ^ (n : Int).toNat).toNat : Int)))))), (70, (.bool (decide (0 ≠ 0)))), (71, (Value.int .i64 n)), (11, rv), (72, (Value.int .i64 q))] e3) _ _
    refine vc_seq ?_
    refine vc_res (σ' := [ζ1, ζ11]) rfl ?_
    refine vc_region ?_
    refine oq (qv_lss rfl rfl) ?_
    refine ops_nil ?_
    refine vc_seq ?_
    refine vc_if rfl (fun c5 => ?_) (fun c5 => ?_)
    ·
     refine vc_skip ?_
     refine vc_seq ?_
     refine vc_block ?_
     refine vc_seq ?_
     refine vc_region ?_
     refine oq (qv_mv (Value.int .i64 q) rfl) ?_
     refine oq (qv_as (Value.int .i64 q) rfl) ?_
     refine ops_nil ?_
     have hul := upr_len q.toNat 0
     refine vc_region ?_
     refine oq (qv_mv rv rfl) ?_
     refine oq (qv_mv (Value.int .i64 q) rfl) ?_
     refine ops_lit (n := 1) (s := 1) (cs := [(Value.int .i64 q)]) Try.underlying22 Try.ti3 (Nat.le_of_ble_eq_true rfl) rfl rfl rfl (Nat.le_of_ble_eq_true rfl) rfl (fun b3 => ?_)
     subst ζ1 ζ11 ζ2 ζ12
     refine ops_append (k := 1) (n := (upr 0 q.toNat).length) (s := 1) (m := 1) (v := rv) (xs := ((upr 0 q.toNat).map (Value.int .i64))) (news := [(Value.int .i64 q)]) Try.underlying22 Try.ti3 rfl (Nat.le_of_ble_eq_true rfl) rfl rfl rfl rfl (news_own (j := 2) rfl) (by simp [Value.oneCell']) (by omega) (by simp only [maxLen]; omega) (fun v1 hn1 => ?_)
     refine oq (qv_as v1 rfl) ?_
     refine ops_nil ?_
     let ζ9 : Asrt := Gr 3 1 v1 (((upr 0 q.toNat).length + 1)) ((((upr 0 q.toNat).map (Value.int .i64)) ++ [(Value.int .i64 q)]))
     refine vc_res (σ' := [(Arr 25 b2 [(.int .i64 A0.v), lva, nva, (.int .i64 A0.r)]), ζ9, (Arr 3 b3 [(Value.int .i64 q)])]) rfl ?_
     refine vc_drop [(Arr 25 b2 [(Value.int .i64 (A0.v)), lva, nva, (Value.int .i64 (A0.r))]), ζ9] [(Arr 3 b3 [(Value.int .i64 q)])] ((List.perm_middle (l₁ := [(Arr 25 b2 [(Value.int .i64 (A0.v)), lva, nva, (Value.int .i64 (A0.r))]), ζ9]) (l₂ := [])).trans (List.perm_append_comm (l₁ := [(Arr 3 b3 [(Value.int .i64 q)])]))) ?_
     refine vc_region ?_
     refine oq (qv_add rfl rfl (by omega)) ?_
     refine oq (qv_mv (.int .i64 (q + 1)) rfl) ?_
     refine ops_nil ?_
     subst ζ9
     refine ⟨(q + 1, v1), ⟨rfl, rfl, rfl, rfl, rfl, rfl, rfl, rfl, rfl, rfl, rfl, rfl, rfl, rfl, rfl, rfl, (congrArg (Value.int .i64) (show (q + 1) = ((q + 1)) from by omega)), trivial⟩, ⟨rfl, (show [(Arr 25 b2 [(.int .i64 A0.v), lva, nva, (.int .i64 A0.r)]), (Gr 3 1 v1 ((upr 0 (q + 1 : Int).toNat).length) (((upr 0 (q + 1 : Int).toNat).map (Value.int .i64))))] = [(Arr 25 b2 [(.int .i64 A0.v), lva, nva, (.int .i64 A0.r)]), (Gr 3 1 v1 (((upr 0 q.toNat).length + 1)) ((((upr 0 q.toNat).map (Value.int .i64)) ++ [(Value.int .i64 q)])))] from by rw [show (q + 1).toNat = q.toNat + 1 by omega, upr_snoc, List.map_append, List.length_append, show (0 : Int) + (q.toNat : Int) = q by omega]; rfl), by omega, by omega⟩, by omega⟩
    ·
     refine vc_exit ?_
     refine blockQ_hit ?_
     refine vc_seq ?_
     refine vc_region ?_
     refine oq (qv_ldm (vs := [(.int .i64 A0.v), lva, nva, (.int .i64 A0.r)]) Try.agg25 rfl (inOc (k := 0) rfl) rfl rfl) ?_
     refine ops_alloc Try.ti25 rfl (fun b4 => ?_)
     refine ops_stw (k := 2) (vs := [(.int .i64 A0.v), lva, nva, (.int .i64 A0.r)]) Try.size25 rfl rfl rfl (allc rfl (allc (Sl.one hMa.l) (allc (SlS.one hMa.n) (allc rfl rfl)))) rfl rfl ?_
     refine ops_nil ?_
     refine vc_seq ?_
     refine vc_seq ?_
     refine vc_res (σ' := [ζ1, ζ11, (Arr 25 b4 [(.int .i64 A0.v), lva, nva, (.int .i64 A0.r)])]) rfl ?_
     refine vc_region ?_
     refine oq (qv_as (Value.int .i64 0) rfl) ?_
     refine ops_nil ?_
     refine vc_block ?_
     refine vc_loop (α := Int × List Int × Value × Mg × Value × Value) (fun (xx : Int × List Int × Value × Mg × Value × Value) => [(0, wv), (1, ov), (5, (Value.int .i64 n)), (6, (.slice (some ⟨b1, 0, none⟩) ((2 : Int) ^ (n : Int).toNat).toNat ((2 : Int) ^ (n : Int).toNat).toNat)), (7, (Value.int .i64 tot)), (9, (Value.pointer (some ⟨b2, 0, none⟩))), (13, (Value.pointer (some ⟨b4, 0, none⟩))), (27, (Value.bool false)), (33, (.bool (decide ((2 * (2 : Int) ^ (n : Int).toNat) ≤ (if 64 < ((W.length : Int)) then 64 else (W.length : Int)))))), (40, (.int .i64 ((((2 : Int) ^ (n : Int).toNat).toNat : Int)))), (41, (Value.int .i64 i)), (42, (.bool (decide (i < ((((2 : Int) ^ (n : Int).toNat).toNat : Int)))))), (70, (.bool (decide (0 ≠ 0)))), (71, (Value.int .i64 n)), (72, (Value.int .i64 q)), (73, (.bool (decide (q < n)))), (11, xx.2.2.1), (14, (Value.int .i64 xx.1))]) (fun (xx : Int × List Int × Value × Mg × Value × Value) V' σ' => [ζ1, (Gr 3 1 xx.2.2.1 xx.2.1.length ((xx.2.1.map (Value.int .i64)))), (Arr 25 b4 [(.int .i64 xx.2.2.2.1.v), xx.2.2.2.2.1, xx.2.2.2.2.2, (.int .i64 xx.2.2.2.1.r)])] = σ' ∧ Ints .i64 V' wv W ∧ Ints .u8 V' ov O ∧ Ints .i64 V' (.slice (some ⟨b1, 0, none⟩) ((2 : Int) ^ (n : Int).toNat).toNat ((2 : Int) ^ (n : Int).toNat).toNat) T ∧ Mt V' lva nva A0 ∧ Mt V' xx.2.2.2.2.1 xx.2.2.2.2.2 xx.2.2.2.1 ∧ 0 ≤ xx.1 ∧ xx.1 ≤ n - xx.2.1.length ∧ SInv n tot xx.2.1 xx.2.2.2.1) (fun (xx : Int × List Int × Value × Mg × Value × Value) => xx.2.1.length) (0, (upr 0 n.toNat), rv, A0, lva, nva) ?_ ?_ ?_
     · exact ⟨rfl, rfl, rfl, rfl, rfl, rfl, rfl, rfl, rfl, rfl, rfl, rfl, rfl, rfl, rfl, rfl, rfl, rfl, trivial⟩
     · subst ζ1 ζ11 ζ2 ζ12; exact (show [(Arr 25 b2 [(.int .i64 A0.v), lva, nva, (.int .i64 A0.r)]), (Gr 3 1 rv ((upr 0 n.toNat) : List Int).length ((((upr 0 n.toNat) : List Int).map (Value.int .i64)))), (Arr 25 b4 [(.int .i64 A0.v), lva, nva, (.int .i64 A0.r)])] = [(Arr 25 b2 [(.int .i64 A0.v), lva, nva, (.int .i64 A0.r)]), (Gr 3 1 rv ((upr 0 q.toNat).length) (((upr 0 q.toNat).map (Value.int .i64)))), (Arr 25 b4 [(.int .i64 A0.v), lva, nva, (.int .i64 A0.r)])] ∧ Ints .i64 V1 wv W ∧ Ints .u8 V1 ov O ∧ Ints .i64 V1 (.slice (some ⟨b1, 0, none⟩) ((2 : Int) ^ (n : Int).toNat).toNat ((2 : Int) ^ (n : Int).toNat).toNat) T ∧ Mt V1 lva nva A0 ∧ Mt V1 lva nva A0 ∧ 0 ≤ (0 : Int) ∧ (0 : Int) ≤ n - ((upr 0 n.toNat) : List Int).length ∧ SInv n tot ((upr 0 n.toNat) : List Int) A0 from ⟨(show [(Arr 25 b2 [(.int .i64 A0.v), lva, nva, (.int .i64 A0.r)]), (Gr 3 1 rv ((upr 0 n.toNat) : List Int).length ((((upr 0 n.toNat) : List Int).map (Value.int .i64)))), (Arr 25 b4 [(.int .i64 ((A0 : Mg).v)), lva, nva, (.int .i64 ((A0 : Mg).r))])] = [(Arr 25 b2 [(.int .i64 A0.v), lva, nva, (.int .i64 A0.r)]), (Gr 3 1 rv ((upr 0 q.toNat).length) (((upr 0 q.toNat).map (Value.int .i64)))), (Arr 25 b4 [(.int .i64 A0.v), lva, nva, (.int .i64 A0.r)])] from by rw [show q = n by omega]), hW, hO, hT, hMa, hMa, by omega, by rw [upr_len]; omega, hS0⟩)
     rintro ⟨k, R, rv, A, lvs, nvs⟩ e4 V3l σ3l hI3
     let ζ5 : Asrt := Gr 3 1 rv R.length ((R.map (Value.int .i64)))
     let ζ6 : Asrt := Arr 25 b4 [(.int .i64 A.v), lvs, nvs, (.int .i64 A.r)]
     obtain ⟨rfl, hW, hO, hT, hMa, hMs, i7, i8, hS⟩ : [ζ1, ζ5, ζ6] = σ3l ∧ Ints .i64 V3l wv W ∧ Ints .u8 V3l ov O ∧ Ints .i64 V3l ζ2 T ∧ Mt V3l lva nva A0 ∧ Mt V3l lvs nvs A ∧ 0 ≤ k ∧ k ≤ n - R.length ∧ SInv n tot R A := hI3
     change VC _ _ _ _ _ _ (upds 211 [(0, wv), (1, ov), (5, (Value.int .i64 n)), (6, ζ2), (7, (Value.int .i64 tot)), (9, (Value.pointer (some ⟨b2, 0, none⟩))), (13, (Value.pointer (some ⟨b4, 0, none⟩))), (27, (Value.bool false)), (33, ζ12), (40, (.int .i64 ((((2 : Int) ^ (n : Int).toNat).toNat : Int)))), (41, (Value.int .i64 i)), (42, (.bool (decide (i < ((((2 : Int) ^ (n : Int).toNat).toNat : Int)))))), (70, (.bool (decide (0 ≠ 0)))), (71, (Value.int .i64 n)), (72, (Value.int .i64 q)), (73, (.bool (decide (q < n)))), (11, rv), (14, (Value.int .i64 k))] e4) _ _
     refine vc_seq ?_
     refine vc_seq ?_
     refine vc_res (σ' := [ζ1, ζ5, ζ6]) rfl ?_
     refine vc_region ?_
     refine oq (qv_mv rv rfl) ?_
     refine oq (qv_lenGi Try.underlying22 rfl (inGi (k := 1) rfl)) ?_
     refine oq (qv_gtr rfl rfl) ?_
     refine ops_nil ?_
     refine vc_if rfl (fun c6 => ?_) (fun c6 => ?_)
     ·
      refine vc_skip ?_
      refine vc_seq ?_
      refine vc_block ?_
      refine vc_seq ?_
      have hRpos : 0 < R.length := by omega
      have hRne : R ≠ [] := List.ne_nil_of_length_pos hRpos
      refine vc_region ?_
      obtain ⟨j, hj⟩ : ∃ z : Int, z = 0 := ⟨_, rfl⟩
      refine oq (qv_as (Value.int .i64 j) (show _ = _ from congrArg (Value.int .i64) hj.symm)) ?_
      refine ops_nil ?_
      refine vc_seq ?_
      refine vc_seq ?_
      refine vc_region ?_
      refine oq (qv_mv (Value.int .i64 k) rfl) ?_
      refine oq (qv_mv ov rfl) ?_
      refine oq (qv_lenI Try.underlying39 rfl hO) ?_
      refine oq (qv_lss rfl rfl) ?_
      refine ops_nil ?_
      refine vc_if rfl (fun c7 => ?_) (fun c7 => ?_)
      ·
       have hOk := hu (gi O k) (gi_mem (by omega) (by omega))
       have hOk1 := hOk.1
       have hOk2 := hOk.2
       refine vc_region ?_
       refine oq (qv_mv ov rfl) ?_
       refine oq (qv_mv (Value.int .i64 k) rfl) ?_
       refine oq (qv_iai (v := ov) (i := k) Try.underlying39 Try.size5 rfl (inVi hO) rfl (by omega) (by omega)) ?_
       refine oq (qv_ldi (v := ov) (i := k) Try.plain5 rfl (inVi hO) (by omega) (by omega)) ?_
       refine oq (qv_convk Try.underlying5 Try.underlying3 rfl (IntWalk.i64_in _ (by omega))) ?_
       refine oq (qv_mv rv rfl) ?_
       refine oq (qv_lenGi Try.underlying22 rfl (inGi (k := 1) rfl)) ?_
       refine oq (qv_rem rfl rfl (by omega) (by omega)) ?_
       obtain ⟨j, hj⟩ : ∃ z : Int, z = (gi O (k)) % ((R.length : Int)) := ⟨_, rfl⟩
       refine oq (qv_as (Value.int .i64 j) (show _ = _ from congrArg (Value.int .i64) hj.symm)) ?_
       refine ops_nil ?_
       refine vc_seq ?_
       have hj0 : 0 ≤ j ∧ j < R.length := by first | (rw [hj]; exact ⟨Int.emod_nonneg _ (by omega), Int.emod_lt_of_pos _ (by omega)⟩) | omega
       have hj1 := hj0.1
       have hj2 := hj0.2
       have hS1 := hS
       subst ζ1 ζ11 ζ2 ζ12 ζ5 ζ6
       rw [(del_at (R := R) hj1 hj2).1] at hS1
       obtain ⟨hst1, hst2, hst3⟩ := sInv_step hS1
       obtain ⟨A2, hA2⟩ : ∃ X, X = boD A (gi R j) sumF := ⟨_, rfl⟩
       rw [← hA2] at hst3
       have hS2 : SInv n tot (R.take j.toNat ++ R.drop (j + 1).toNat) A2 := hst3
       have hRl2 : (R.take j.toNat ++ R.drop (j + 1).toNat).length = R.length - 1 := by rw [List.length_append, List.length_take, List.length_drop]; omega
       let ζ1 : Asrt := Arr 25 b2 [(.int .i64 A0.v), lva, nva, (.int .i64 A0.r)]
       let ζ5 : Asrt := Gr 3 1 rv R.length ((R.map (Value.int .i64)))
       let ζ6 : Asrt := Arr 25 b4 [(.int .i64 A.v), lvs, nvs, (.int .i64 A.r)]
       refine vc_region_order (τ := [ζ6]) [(1, false), (2, false), (3, false), (4, false), (0, true), (5, true), (6, false), (7, false), (8, false), (9, true), (10, false)] [ζ1, ζ5] Try.mixed (perm_idx _ _ [0, 1, 2] rfl rfl) (by kernel_rfl) ?_
       refine rq rfl (qv_mv rv rfl) ?_
       refine rq rfl (qv_mv (Value.int .i64 j) rfl) ?_
       refine rq rfl (qv_iai (v := rv) (i := j) Try.underlying22 Try.size3 rfl (inGi (k := 1) rfl) rfl (by omega) (by omega)) ?_
       refine rq rfl (qv_ldi (v := rv) (i := j) Try.plain3 rfl (inGi (k := 1) rfl) (by omega) (by omega)) ?_
       refine rl rfl ?_
       refine oq (qv_ldm (vs := [(.int .i64 A.v), lvs, nvs, (.int .i64 A.r)]) Try.agg25 rfl (inOc (k := 2) rfl) rfl rfl) ?_
       refine ops_nil ⟨[ζ1, ζ5], [ζ6], (Sub.refl _), (perm_idx _ _ [0, 1, 2] rfl rfl), ⟨[], .refl _⟩, ?_⟩
       refine rl rfl ?_
       subst ζ1 ζ5 ζ6
       refine ops_call (σa := []) (σr := [(Arr 25 b2 [(.int .i64 A0.v), lva, nva, (.int .i64 A0.r)]), (Gr 3 1 rv R.length ((R.map (Value.int .i64)))), (Arr 25 b4 [(.int .i64 A.v), lvs, nvs, (.int .i64 A.r)])]) (by have h := SumOut_c (i := gi R j) hMs; rw [hst2, ← hA2] at h; exact h) rfl rfl (.refl _) (fun r2 V2 sg2 hV2 hp2 => ?_)
       obtain ⟨rfl, lvt, nvt, rfl, hMt⟩ := hp2
       have hW := hW.mono hV2
       have hO := hO.mono hV2
       have hT := hT.mono hV2
       have hMa := hMa.mono hV2
       have hMs := hMs.mono hV2
       let ζ1 : Asrt := Arr 25 b2 [(.int .i64 A0.v), lva, nva, (.int .i64 A0.r)]
       let ζ5 : Asrt := Gr 3 1 rv R.length ((R.map (Value.int .i64)))
       refine ops_nil ⟨[ζ1, ζ5], [(Arr 25 b4 [(.int .i64 A.v), lvs, nvs, (.int .i64 A.r)])], hV2, (perm_idx _ _ [0, 1, 2] rfl rfl), ⟨[], .refl _⟩, ?_⟩
       let ζ13 : Value := .agg #[(.int .i64 A2.v), lvt, nvt, (.int .i64 A2.r)]
       refine rq rfl (qv_mv (.tuple #[ζ13, (Value.int .i64 0)]) rfl) ?_
       refine rq rfl (qv_ext ζ13 rfl rfl) ?_
       refine rq rfl (qv_ext (Value.int .i64 0) rfl rfl) ?_
       refine rl rfl ?_
       refine ops_stw (k := 2) (vs := [(.int .i64 A2.v), lvt, nvt, (.int .i64 A2.r)]) Try.size25 rfl rfl rfl (allc rfl (allc (Sl.one hMt.l) (allc (SlS.one hMt.n) (allc rfl rfl)))) rfl rfl ?_
       let ζ4 : Asrt := Arr 25 b4 [(.int .i64 A2.v), lvt, nvt, (.int .i64 A2.r)]
       refine ops_nil ⟨[ζ1, ζ5], [ζ4], (Sub.refl _), (perm_idx _ _ [0, 1, 2] rfl rfl), ⟨[], .refl _⟩, ?_⟩
       refine rq rfl (qv_as (Value.int .i64 0) rfl) ?_
       refine rnil ?_
       refine vc_seq ?_
       refine vc_seq ?_
       refine vc_res (σ' := [ζ1, ζ5, ζ4]) rfl ?_
       refine vc_region ?_
       refine oq (qv_mv (Value.int .i64 0) rfl) ?_
       refine oq (qv_neq rfl rfl) ?_
       refine ops_nil ?_
       refine vc_if rfl (fun c8 => ?_) (fun c8 => ?_)
       ·
        omega
       ·
        refine vc_skip ?_
        refine vc_region ?_
        refine oq (qv_mv rv rfl) ?_
        refine oq (qv_mv (Value.int .i64 j) rfl) ?_
        refine oq (qv_mv (Value.int .i64 j) rfl) ?_
        refine oq (qv_add rfl rfl (by omega)) ?_
        subst ζ1 ζ5 ζ13 ζ4
        refine ops_call (σa := [(Gr 3 1 rv R.length ((R.map (Value.int .i64))))]) (σr := [(Arr 25 b2 [(.int .i64 A0.v), lva, nva, (.int .i64 A0.r)]), (Arr 25 b4 [(.int .i64 A2.v), lvt, nvt, (.int .i64 A2.r)])]) (by have h := Delete_c (V := V2) (v := rv) (zs := R) (i := j.toNat) (j := (j + 1).toNat) hRne (by omega) (by omega); rw [show ((j.toNat : Nat) : Int) = j by omega, show (((j + 1).toNat : Nat) : Int) = j + 1 by omega] at h; exact h) rfl rfl (perm_idx _ _ [1, 0, 2] rfl rfl) (fun r3 V3 sg3 hV3 hp3 => ?_)
        obtain ⟨hVV, rfl⟩ := hp3
        obtain ⟨u9, hu9⟩ : ∃ x, x = r3 := ⟨_, rfl⟩
        subst hu9
        have hW := hW.mono hV3
        have hO := hO.mono hV3
        have hT := hT.mono hV3
        have hMa := hMa.mono hV3
        have hMs := hMs.mono hV3
        have hMt := hMt.mono hV3
        let ζ1 : Asrt := Arr 25 b2 [(.int .i64 A0.v), lva, nva, (.int .i64 A0.r)]
        let ζ3 : Asrt := Gr 3 1 u9 ((R.take j.toNat ++ R.drop (j + 1).toNat).length) (((R.take j.toNat ++ R.drop (j + 1).toNat).map (Value.int .i64)))
        let ζ4 : Asrt := Arr 25 b4 [(.int .i64 A2.v), lvt, nvt, (.int .i64 A2.r)]
        refine ops_perm (σ' := [ζ1, ζ3, ζ4]) (perm_idx _ _ [1, 0, 2] rfl rfl) ?_
        refine oq (qv_as u9 rfl) ?_
        refine ops_nil ?_
        refine vc_res (σ' := [ζ1, ζ3, ζ4]) rfl ?_
        refine vc_region ?_
        refine oq (qv_mv (Value.int .i64 k) rfl) ?_
        refine oq (qv_add rfl rfl (by omega)) ?_
        refine oq (qv_as (.int .i64 (k + 1)) rfl) ?_
        refine ops_nil ?_
        refine ⟨(k + 1, (R.take j.toNat ++ R.drop (j + 1).toNat), u9, A2, lvt, nvt), ⟨rfl, rfl, rfl, rfl, rfl, rfl, rfl, rfl, rfl, rfl, rfl, rfl, rfl, rfl, rfl, rfl, rfl, (congrArg (Value.int .i64) (show (k + 1) = ((k + 1)) from by omega)), trivial⟩, (show [ζ1, (Gr 3 1 u9 ((R.take j.toNat ++ R.drop (j + 1).toNat) : List Int).length ((((R.take j.toNat ++ R.drop (j + 1).toNat) : List Int).map (Value.int .i64)))), ζ4] = [ζ1, ζ3, ζ4] ∧ Ints .i64 V3 wv W ∧ Ints .u8 V3 ov O ∧ Ints .i64 V3 (.slice (some ⟨b1, 0, none⟩) ((2 : Int) ^ (n : Int).toNat).toNat ((2 : Int) ^ (n : Int).toNat).toNat) T ∧ Mt V3 lva nva A0 ∧ Mt V3 lvt nvt A2 ∧ 0 ≤ (k + 1 : Int) ∧ (k + 1 : Int) ≤ n - ((R.take j.toNat ++ R.drop (j + 1).toNat) : List Int).length ∧ SInv n tot ((R.take j.toNat ++ R.drop (j + 1).toNat) : List Int) A2 from ⟨(show [ζ1, (Gr 3 1 u9 ((R.take j.toNat ++ R.drop (j + 1).toNat) : List Int).length ((((R.take j.toNat ++ R.drop (j + 1).toNat) : List Int).map (Value.int .i64)))), (Arr 25 b4 [(.int .i64 ((A2 : Mg).v)), lvt, nvt, (.int .i64 ((A2 : Mg).r))])] = [ζ1, ζ3, ζ4] from by rfl), hW, hO, hT, hMa, hMt, by omega, by omega, hS2⟩), show ((R.take j.toNat ++ R.drop (j + 1).toNat) : List Int).length < R.length from by omega⟩
      ·
       refine vc_skip ?_
       refine vc_seq ?_
       have hj0 : 0 ≤ j ∧ j < R.length := by first | (rw [hj]; exact ⟨Int.emod_nonneg _ (by omega), Int.emod_lt_of_pos _ (by omega)⟩) | omega
       have hj1 := hj0.1
       have hj2 := hj0.2
       have hS1 := hS
       subst ζ1 ζ11 ζ2 ζ12 ζ5 ζ6
       rw [(del_at (R := R) hj1 hj2).1] at hS1
       obtain ⟨hst1, hst2, hst3⟩ := sInv_step hS1
       obtain ⟨A2, hA2⟩ : ∃ X, X = boD A (gi R j) sumF := ⟨_, rfl⟩
       rw [← hA2] at hst3
       have hS2 : SInv n tot (R.take j.toNat ++ R.drop (j + 1).toNat) A2 := hst3
       have hRl2 : (R.take j.toNat ++ R.drop (j + 1).toNat).length = R.length - 1 := by rw [List.length_append, List.length_take, List.length_drop]; omega
       let ζ1 : Asrt := Arr 25 b2 [(.int .i64 A0.v), lva, nva, (.int .i64 A0.r)]
       let ζ5 : Asrt := Gr 3 1 rv R.length ((R.map (Value.int .i64)))
       let ζ6 : Asrt := Arr 25 b4 [(.int .i64 A.v), lvs, nvs, (.int .i64 A.r)]
       refine vc_region_order (τ := [ζ6]) [(1, false), (2, false), (3, false), (4, false), (0, true), (5, true), (6, false), (7, false), (8, false), (9, true), (10, false)] [ζ1, ζ5] Try.mixed (perm_idx _ _ [0, 1, 2] rfl rfl) (by kernel_rfl) ?_
       refine rq rfl (qv_mv rv rfl) ?_
       refine rq rfl (qv_mv (Value.int .i64 j) rfl) ?_
       refine rq rfl (qv_iai (v := rv) (i := j) Try.underlying22 Try.size3 rfl (inGi (k := 1) rfl) rfl (by omega) (by omega)) ?_
       refine rq rfl (qv_ldi (v := rv) (i := j) Try.plain3 rfl (inGi (k := 1) rfl) (by omega) (by omega)) ?_
       refine rl rfl ?_
       refine oq (qv_ldm (vs := [(.int .i64 A.v), lvs, nvs, (.int .i64 A.r)]) Try.agg25 rfl (inOc (k := 2) rfl) rfl rfl) ?_
       refine ops_nil ⟨[ζ1, ζ5], [ζ6], (Sub.refl _), (perm_idx _ _ [0, 1, 2] rfl rfl), ⟨[], .refl _⟩, ?_⟩
       refine rl rfl ?_
       subst ζ1 ζ5 ζ6
       refine ops_call (σa := []) (σr := [(Arr 25 b2 [(.int .i64 A0.v), lva, nva, (.int .i64 A0.r)]), (Gr 3 1 rv R.length ((R.map (Value.int .i64)))), (Arr 25 b4 [(.int .i64 A.v), lvs, nvs, (.int .i64 A.r)])]) (by have h := SumOut_c (i := gi R j) hMs; rw [hst2, ← hA2] at h; exact h) rfl rfl (.refl _) (fun r4 V4 sg4 hV4 hp4 => ?_)
       obtain ⟨rfl, lvt, nvt, rfl, hMt⟩ := hp4
       have hW := hW.mono hV4
       have hO := hO.mono hV4
       have hT := hT.mono hV4
       have hMa := hMa.mono hV4
       have hMs := hMs.mono hV4
       let ζ1 : Asrt := Arr 25 b2 [(.int .i64 A0.v), lva, nva, (.int .i64 A0.r)]
       let ζ5 : Asrt := Gr 3 1 rv R.length ((R.map (Value.int .i64)))
       refine ops_nil ⟨[ζ1, ζ5], [(Arr 25 b4 [(.int .i64 A.v), lvs, nvs, (.int .i64 A.r)])], hV4, (perm_idx _ _ [0, 1, 2] rfl rfl), ⟨[], .refl _⟩, ?_⟩
       let ζ13 : Value := .agg #[(.int .i64 A2.v), lvt, nvt, (.int .i64 A2.r)]
       refine rq rfl (qv_mv (.tuple #[ζ13, (Value.int .i64 0)]) rfl) ?_
       refine rq rfl (qv_ext ζ13 rfl rfl) ?_
       refine rq rfl (qv_ext (Value.int .i64 0) rfl rfl) ?_
       refine rl rfl ?_
       refine ops_stw (k := 2) (vs := [(.int .i64 A2.v), lvt, nvt, (.int .i64 A2.r)]) Try.size25 rfl rfl rfl (allc rfl (allc (Sl.one hMt.l) (allc (SlS.one hMt.n) (allc rfl rfl)))) rfl rfl ?_
       let ζ4 : Asrt := Arr 25 b4 [(.int .i64 A2.v), lvt, nvt, (.int .i64 A2.r)]
       refine ops_nil ⟨[ζ1, ζ5], [ζ4], (Sub.refl _), (perm_idx _ _ [0, 1, 2] rfl rfl), ⟨[], .refl _⟩, ?_⟩
       refine rq rfl (qv_as (Value.int .i64 0) rfl) ?_
       refine rnil ?_
       refine vc_seq ?_
       refine vc_seq ?_
       refine vc_res (σ' := [ζ1, ζ5, ζ4]) rfl ?_
       refine vc_region ?_
       refine oq (qv_mv (Value.int .i64 0) rfl) ?_
       refine oq (qv_neq rfl rfl) ?_
       refine ops_nil ?_
       refine vc_if rfl (fun c9 => ?_) (fun c9 => ?_)
       ·
        omega
       ·
        refine vc_skip ?_
        refine vc_region ?_
        refine oq (qv_mv rv rfl) ?_
        refine oq (qv_mv (Value.int .i64 j) rfl) ?_
        refine oq (qv_mv (Value.int .i64 j) rfl) ?_
        refine oq (qv_add rfl rfl (by omega)) ?_
        subst ζ1 ζ5 ζ13 ζ4
        refine ops_call (σa := [(Gr 3 1 rv R.length ((R.map (Value.int .i64))))]) (σr := [(Arr 25 b2 [(.int .i64 A0.v), lva, nva, (.int .i64 A0.r)]), (Arr 25 b4 [(.int .i64 A2.v), lvt, nvt, (.int .i64 A2.r)])]) (by have h := Delete_c (V := V4) (v := rv) (zs := R) (i := j.toNat) (j := (j + 1).toNat) hRne (by omega) (by omega); rw [show ((j.toNat : Nat) : Int) = j by omega, show (((j + 1).toNat : Nat) : Int) = j + 1 by omega] at h; exact h) rfl rfl (perm_idx _ _ [1, 0, 2] rfl rfl) (fun r5 V5 sg5 hV5 hp5 => ?_)
        obtain ⟨hVV, rfl⟩ := hp5
        obtain ⟨u9, hu9⟩ : ∃ x, x = r5 := ⟨_, rfl⟩
        subst hu9
        have hW := hW.mono hV5
        have hO := hO.mono hV5
        have hT := hT.mono hV5
        have hMa := hMa.mono hV5
        have hMs := hMs.mono hV5
        have hMt := hMt.mono hV5
        let ζ1 : Asrt := Arr 25 b2 [(.int .i64 A0.v), lva, nva, (.int .i64 A0.r)]
        let ζ3 : Asrt := Gr 3 1 u9 ((R.take j.toNat ++ R.drop (j + 1).toNat).length) (((R.take j.toNat ++ R.drop (j + 1).toNat).map (Value.int .i64)))
        let ζ4 : Asrt := Arr 25 b4 [(.int .i64 A2.v), lvt, nvt, (.int .i64 A2.r)]
        refine ops_perm (σ' := [ζ1, ζ3, ζ4]) (perm_idx _ _ [1, 0, 2] rfl rfl) ?_
        refine oq (qv_as u9 rfl) ?_
        refine ops_nil ?_
        refine vc_res (σ' := [ζ1, ζ3, ζ4]) rfl ?_
        refine vc_region ?_
        refine oq (qv_mv (Value.int .i64 k) rfl) ?_
        refine oq (qv_add rfl rfl (by omega)) ?_
        refine oq (qv_as (.int .i64 (k + 1)) rfl) ?_
        refine ops_nil ?_
        refine ⟨(k + 1, (R.take j.toNat ++ R.drop (j + 1).toNat), u9, A2, lvt, nvt), ⟨rfl, rfl, rfl, rfl, rfl, rfl, rfl, rfl, rfl, rfl, rfl, rfl, rfl, rfl, rfl, rfl, rfl, (congrArg (Value.int .i64) (show (k + 1) = ((k + 1)) from by omega)), trivial⟩, (show [ζ1, (Gr 3 1 u9 ((R.take j.toNat ++ R.drop (j + 1).toNat) : List Int).length ((((R.take j.toNat ++ R.drop (j + 1).toNat) : List Int).map (Value.int .i64)))), ζ4] = [ζ1, ζ3, ζ4] ∧ Ints .i64 V5 wv W ∧ Ints .u8 V5 ov O ∧ Ints .i64 V5 (.slice (some ⟨b1, 0, none⟩) ((2 : Int) ^ (n : Int).toNat).toNat ((2 : Int) ^ (n : Int).toNat).toNat) T ∧ Mt V5 lva nva A0 ∧ Mt V5 lvt nvt A2 ∧ 0 ≤ (k + 1 : Int) ∧ (k + 1 : Int) ≤ n - ((R.take j.toNat ++ R.drop (j + 1).toNat) : List Int).length ∧ SInv n tot ((R.take j.toNat ++ R.drop (j + 1).toNat) : List Int) A2 from ⟨(show [ζ1, (Gr 3 1 u9 ((R.take j.toNat ++ R.drop (j + 1).toNat) : List Int).length ((((R.take j.toNat ++ R.drop (j + 1).toNat) : List Int).map (Value.int .i64)))), (Arr 25 b4 [(.int .i64 ((A2 : Mg).v)), lvt, nvt, (.int .i64 ((A2 : Mg).r))])] = [ζ1, ζ3, ζ4] from by rfl), hW, hO, hT, hMa, hMt, by omega, by omega, hS2⟩), show ((R.take j.toNat ++ R.drop (j + 1).toNat) : List Int).length < R.length from by omega⟩
     ·
      refine vc_exit ?_
      refine blockQ_hit ?_
      refine vc_seq ?_
      have hR0 : R = [] := List.eq_nil_of_length_eq_zero (by omega)
      have hcn := sInv_end (by rw [hR0] at hS; exact hS)
      refine vc_region ?_
      refine oq (qv_mv (Value.int .i64 n) rfl) ?_
      refine oq (qv_mv (Value.int .i64 tot) rfl) ?_
      subst ζ1 ζ11 ζ2 ζ12 ζ5 ζ6
      refine ops_call (σa := []) (σr := [(Arr 25 b2 [(.int .i64 A0.v), lva, nva, (.int .i64 A0.r)]), (Gr 3 1 rv R.length ((R.map (Value.int .i64)))), (Arr 25 b4 [(.int .i64 A.v), lvs, nvs, (.int .i64 A.r)])]) (by have h := Constant_c (V := V3l) (vars := n) (z := tot); rw [hcn.2.1, hcn.2.2] at h; exact h) rfl rfl (.refl _) (fun r6 V6 sg6 hV6 hp6 => ?_)
      obtain ⟨rfl, lvk, nvk, rfl, hMk⟩ := hp6
      have hW := hW.mono hV6
      have hO := hO.mono hV6
      have hT := hT.mono hV6
      have hMa := hMa.mono hV6
      have hMs := hMs.mono hV6
      refine oq (qv_mv (.tuple #[(.agg #[(.int .i64 A.v), lvk, nvk, (.int .i64 A.r)]), (Value.int .i64 0)]) rfl) ?_
      refine oq (qv_ext (.agg #[(.int .i64 A.v), lvk, nvk, (.int .i64 A.r)]) rfl rfl) ?_
      refine oq (qv_ext (Value.int .i64 0) rfl rfl) ?_
      refine ops_alloc Try.ti25 rfl (fun b5 => ?_)
      refine ops_stw (k := 3) (vs := [(.int .i64 A.v), lvk, nvk, (.int .i64 A.r)]) Try.size25 rfl rfl rfl (allc rfl (allc (Sl.one hMk.l) (allc (SlS.one hMk.n) (allc rfl rfl)))) rfl rfl ?_
      refine oq (qv_as (Value.int .i64 0) rfl) ?_
      refine ops_nil ?_
      refine vc_seq ?_
      refine vc_seq ?_
      refine vc_res (σ' := [(Arr 25 b2 [(.int .i64 A0.v), lva, nva, (.int .i64 A0.r)]), (Gr 3 1 rv R.length ((R.map (Value.int .i64)))), (Arr 25 b4 [(.int .i64 A.v), lvs, nvs, (.int .i64 A.r)]), (Arr 25 b5 [(.int .i64 A.v), lvk, nvk, (.int .i64 A.r)])]) rfl ?_
      refine vc_region ?_
      refine oq (qv_mv (Value.int .i64 0) rfl) ?_
      refine oq (qv_neq rfl rfl) ?_
      refine oq (qv_mv (.bool (decide (0 ≠ 0))) rfl) ?_
      by_cases g1 : 0 ≠ 0
      ·
       omega
      ·
       refine og (qv_ldm (vs := [(.int .i64 A.v), lvs, nvs, (.int .i64 A.r)]) Try.agg25 rfl (inOc (k := 2) rfl) rfl rfl) (want_f g1 rfl rfl rfl) ?_
       refine og (qv_ldm (vs := [(.int .i64 A.v), lvk, nvk, (.int .i64 A.r)]) Try.agg25 rfl (inOc (k := 3) rfl) rfl rfl) (want_f g1 rfl rfl rfl) ?_
       refine og (qv_call (v := (.bool (decide (A = A)))) (same_c hMs hMk) rfl rfl) (want_f g1 rfl rfl rfl) ?_
       refine og (qv_not rfl) (want_f g1 rfl rfl rfl) ?_
       refine oq (qv_pick_f g1 rfl (rfl : ev _ _ = (.bool (decide (¬ (A = A)))))) ?_
       refine ops_nil ?_
       refine vc_if rfl (fun c10 => ?_) (fun c10 => ?_)
       ·
        exact (c10 rfl).elim
       ·
        refine vc_skip ?_
        refine vc_seq ?_
        have hcp := cp_facts hokA (by omega)
        obtain ⟨B0, hB0⟩ : ∃ X, X = cpD A0 (-3) 3 := ⟨_, rfl⟩
        rw [← hB0] at hcp
        have hokB := hcp.2.1
        have hvB := hcp.2.2
        have h2z := two_ok hokA hokB (by omega)
        refine vc_region ?_
        refine oq (qv_ldm (vs := [(.int .i64 A0.v), lva, nva, (.int .i64 A0.r)]) Try.agg25 rfl (inOc (k := 0) rfl) rfl rfl) ?_
        refine ops_call (σa := []) (σr := [(Arr 25 b2 [(.int .i64 A0.v), lva, nva, (.int .i64 A0.r)]), (Gr 3 1 rv R.length ((R.map (Value.int .i64)))), (Arr 25 b4 [(.int .i64 A.v), lvs, nvs, (.int .i64 A.r)]), (Arr 25 b5 [(.int .i64 A.v), lvk, nvk, (.int .i64 A.r)])]) (by have h := Clamp_c (low := -3) (high := 3) hMa; rw [hcp.1, ← hB0] at h; exact h) rfl rfl (.refl _) (fun r7 V7 sg7 hV7 hp7 => ?_)
        obtain ⟨rfl, lvc, nvc, rfl, hMc⟩ := hp7
        have hW := hW.mono hV7
        have hO := hO.mono hV7
        have hT := hT.mono hV7
        have hMa := hMa.mono hV7
        have hMs := hMs.mono hV7
        have hMk := hMk.mono hV7
        refine oq (qv_mv (.tuple #[(.agg #[(.int .i64 B0.v), lvc, nvc, (.int .i64 B0.r)]), (Value.int .i64 0)]) rfl) ?_
        refine oq (qv_ext (.agg #[(.int .i64 B0.v), lvc, nvc, (.int .i64 B0.r)]) rfl rfl) ?_
        refine oq (qv_ext (Value.int .i64 0) rfl rfl) ?_
        refine ops_alloc Try.ti25 rfl (fun b6 => ?_)
        refine ops_stw (k := 4) (vs := [(.int .i64 B0.v), lvc, nvc, (.int .i64 B0.r)]) Try.size25 rfl rfl rfl (allc rfl (allc (Sl.one hMc.l) (allc (SlS.one hMc.n) (allc rfl rfl)))) rfl rfl ?_
        refine oq (qv_as (Value.int .i64 0) rfl) ?_
        refine ops_nil ?_
        refine vc_seq ?_
        let ζ1 : Asrt := Arr 25 b2 [(.int .i64 A0.v), lva, nva, (.int .i64 A0.r)]
        let ζ5 : Asrt := Gr 3 1 rv R.length ((R.map (Value.int .i64)))
        let ζ6 : Asrt := Arr 25 b4 [(.int .i64 A.v), lvs, nvs, (.int .i64 A.r)]
        let ζ7 : Asrt := Arr 25 b6 [(.int .i64 B0.v), lvc, nvc, (.int .i64 B0.r)]
        let ζ8 : Asrt := Arr 25 b5 [(.int .i64 A.v), lvk, nvk, (.int .i64 A.r)]
        refine vc_res (σ' := [ζ1, ζ5, ζ6, ζ8, ζ7]) rfl ?_
        refine vc_region ?_
        refine oq (qv_ldm (vs := [(.int .i64 A0.v), lva, nva, (.int .i64 A0.r)]) Try.agg25 rfl (inOc (k := 0) rfl) rfl rfl) ?_
        refine oq (qv_ldm (vs := [(.int .i64 B0.v), lvc, nvc, (.int .i64 B0.r)]) Try.agg25 rfl (inOc (k := 4) rfl) rfl rfl) ?_
        refine ops_call (σa := []) (σr := [ζ1, ζ5, ζ6, ζ8, ζ7]) (Pair_ok hMa hMc h2z (by omega)) rfl rfl (.refl _) (fun r8 V8 sg8 hV8 hp8 => ?_)
        obtain ⟨rfl, S, P0, lvp, nvp, psv, rfl, hP0, hMp, hPS, hpset⟩ := hp8
        obtain ⟨pf1, pf2, pf3, pf4⟩ := pr_facts hokA hokB (by omega) (by omega) hpset
        subst ζ1 ζ5 ζ6 ζ7 ζ8
        rw [← hP0] at pf1 pf2
        have hW := hW.mono hV8
        have hO := hO.mono hV8
        have hT := hT.mono hV8
        have hMa := hMa.mono hV8
        have hMs := hMs.mono hV8
        have hMk := hMk.mono hV8
        have hMc := hMc.mono hV8
        refine oq (qv_mv (.tuple #[(.agg #[(.int .i64 P0.v), lvp, nvp, (.int .i64 P0.r)]), psv, (Value.int .i64 0)]) rfl) ?_
        refine oq (qv_ext (.agg #[(.int .i64 P0.v), lvp, nvp, (.int .i64 P0.r)]) rfl rfl) ?_
        refine oq (qv_ext psv rfl rfl) ?_
        refine oq (qv_ext (Value.int .i64 0) rfl rfl) ?_
        refine ops_alloc Try.ti25 rfl (fun b7 => ?_)
        refine ops_stw (k := 5) (vs := [(.int .i64 P0.v), lvp, nvp, (.int .i64 P0.r)]) Try.size25 rfl rfl rfl (allc rfl (allc (Sl.one hMp.l) (allc (SlS.one hMp.n) (allc rfl rfl)))) rfl rfl ?_
        refine oq (qv_as psv rfl) ?_
        refine oq (qv_as (Value.int .i64 0) rfl) ?_
        refine ops_nil ?_
        refine vc_seq ?_
        refine vc_res (σ' := [(Arr 25 b2 [(.int .i64 A0.v), lva, nva, (.int .i64 A0.r)]), (Gr 3 1 rv R.length ((R.map (Value.int .i64)))), (Arr 25 b4 [(.int .i64 A.v), lvs, nvs, (.int .i64 A.r)]), (Arr 25 b5 [(.int .i64 A.v), lvk, nvk, (.int .i64 A.r)]), (Arr 25 b6 [(.int .i64 B0.v), lvc, nvc, (.int .i64 B0.r)]), (Arr 25 b7 [(.int .i64 P0.v), lvp, nvp, (.int .i64 P0.r)])]) rfl ?_
        refine vc_region ?_
        refine oq (qv_ldm (vs := [(.int .i64 P0.v), lvp, nvp, (.int .i64 P0.r)]) Try.agg25 rfl (inOc (k := 5) rfl) rfl rfl) ?_
        refine ops_call (σa := []) (σr := [(Arr 25 b2 [(.int .i64 A0.v), lva, nva, (.int .i64 A0.r)]), (Gr 3 1 rv R.length ((R.map (Value.int .i64)))), (Arr 25 b4 [(.int .i64 A.v), lvs, nvs, (.int .i64 A.r)]), (Arr 25 b5 [(.int .i64 A.v), lvk, nvk, (.int .i64 A.r)]), (Arr 25 b6 [(.int .i64 B0.v), lvc, nvc, (.int .i64 B0.r)]), (Arr 25 b7 [(.int .i64 P0.v), lvp, nvp, (.int .i64 P0.r)])]) (by have h := Table_c hMp; rw [pf1, pf2] at h; exact h) rfl rfl (.refl _) (fun r9 V9 sg9 hV9 hp9 => ?_)
        obtain ⟨rfl, tpv, rfl, hTP⟩ := hp9
        have hW := hW.mono hV9
        have hO := hO.mono hV9
        have hT := hT.mono hV9
        have hMa := hMa.mono hV9
        have hMs := hMs.mono hV9
        have hMk := hMk.mono hV9
        have hMc := hMc.mono hV9
        have hMp := hMp.mono hV9
        have hPS := hPS.mono hV9
        refine oq (qv_mv (.tuple #[tpv, (Value.int .i64 0)]) rfl) ?_
        refine oq (qv_ext tpv rfl rfl) ?_
        refine oq (qv_ext (Value.int .i64 0) rfl rfl) ?_
        refine oq (qv_as tpv rfl) ?_
        refine oq (qv_as (Value.int .i64 0) rfl) ?_
        refine ops_nil ?_
        refine vc_seq ?_
        refine vc_region ?_
        refine oq (qv_ldm (vs := [(.int .i64 B0.v), lvc, nvc, (.int .i64 B0.r)]) Try.agg25 rfl (inOc (k := 4) rfl) rfl rfl) ?_
        refine ops_call (σa := []) (σr := [(Arr 25 b2 [(.int .i64 A0.v), lva, nva, (.int .i64 A0.r)]), (Gr 3 1 rv R.length ((R.map (Value.int .i64)))), (Arr 25 b4 [(.int .i64 A.v), lvs, nvs, (.int .i64 A.r)]), (Arr 25 b5 [(.int .i64 A.v), lvk, nvk, (.int .i64 A.r)]), (Arr 25 b6 [(.int .i64 B0.v), lvc, nvc, (.int .i64 B0.r)]), (Arr 25 b7 [(.int .i64 P0.v), lvp, nvp, (.int .i64 P0.r)])]) (by have h := Table_c hMc; rw [pf3, pf4] at h; exact h) rfl rfl (.refl _) (fun r10 V10 sg10 hV10 hp10 => ?_)
        obtain ⟨rfl, tuv, rfl, hTU⟩ := hp10
        have hW := hW.mono hV10
        have hO := hO.mono hV10
        have hT := hT.mono hV10
        have hMa := hMa.mono hV10
        have hMs := hMs.mono hV10
        have hMk := hMk.mono hV10
        have hMc := hMc.mono hV10
        have hMp := hMp.mono hV10
        have hPS := hPS.mono hV10
        have hTP := hTP.mono hV10
        refine oq (qv_mv (.tuple #[tuv, (Value.int .i64 0)]) rfl) ?_
        refine oq (qv_ext tuv rfl rfl) ?_
        refine oq (qv_ext (Value.int .i64 0) rfl rfl) ?_
        refine oq (qv_as tuv rfl) ?_
        refine oq (qv_as (Value.int .i64 0) rfl) ?_
        refine ops_nil ?_
        refine vc_seq ?_
        refine vc_seq ?_
        have hpl := pr_len (A := A0) (B := B0) (S := S) (by omega) (by omega)
        have hpl1 := hpl.1
        have hpl2 := hpl.2
        rw [hvA0] at hpl1 hpl2
        refine vc_region ?_
        refine oq (qv_mv (Value.int .i64 0) rfl) ?_
        refine oq (qv_mv (Value.int .i64 0) rfl) ?_
        refine oq (qv_add rfl rfl (by omega)) ?_
        refine oq (qv_mv (Value.int .i64 0) rfl) ?_
        refine oq (qv_add rfl rfl (by omega)) ?_
        refine oq (qv_mv (Value.int .i64 0) rfl) ?_
        refine oq (qv_add rfl rfl (by omega)) ?_
        refine oq (qv_neq rfl rfl) ?_
        refine oq (qv_mv (.bool (decide ((((0 + 0) + 0) + 0) ≠ 0))) rfl) ?_
        by_cases g2 : (((0 + 0) + 0) + 0) ≠ 0
        ·
         omega
        ·
         refine og (qv_mv tpv rfl) (want_f g2 rfl rfl rfl) ?_
         refine og (qv_lenI Try.underlying22 rfl hTP) (want_f g2 rfl rfl rfl) ?_
         let ζ2 : Value := .slice (some ⟨b1, 0, none⟩) ((2 : Int) ^ (n : Int).toNat).toNat ((2 : Int) ^ (n : Int).toNat).toNat
         refine og (qv_mv ζ2 rfl) (want_f g2 rfl rfl rfl) ?_
         refine og (qv_lenI Try.underlying22 rfl hT) (want_f g2 rfl rfl rfl) ?_
         refine og (qv_neq rfl rfl) (want_f g2 rfl rfl rfl) ?_
         refine oq (qv_pick_f g2 rfl (rfl : ev _ _ = (.bool (decide (((((prT A0 B0 S)).length : Int)) ≠ ((T.length : Int))))))) ?_
         refine oq (qv_mv (.bool (decide (((((prT A0 B0 S)).length : Int)) ≠ ((T.length : Int))))) rfl) ?_
         by_cases g3 : ((((prT A0 B0 S)).length : Int)) ≠ ((T.length : Int))
         ·
          omega
         ·
          refine og (qv_mv tuv rfl) (want_f g3 rfl rfl rfl) ?_
          refine og (qv_lenI Try.underlying22 rfl hTU) (want_f g3 rfl rfl rfl) ?_
          refine og (qv_mv ζ2 rfl) (want_f g3 rfl rfl rfl) ?_
          refine og (qv_lenI Try.underlying22 rfl hT) (want_f g3 rfl rfl rfl) ?_
          refine og (qv_neq rfl rfl) (want_f g3 rfl rfl rfl) ?_
          refine oq (qv_pick_f g3 rfl (rfl : ev _ _ = (.bool (decide (((((vT B0)).length : Int)) ≠ ((T.length : Int))))))) ?_
          refine ops_nil ?_
          refine vc_if rfl (fun c11 => ?_) (fun c11 => ?_)
          ·
           omega
          ·
           refine vc_skip ?_
           refine vc_seq ?_
           refine vc_seq ?_
           refine vc_region ?_
           refine oq (qv_mv ζ2 rfl) ?_
           refine oq (qv_lenI Try.underlying22 rfl hT) ?_
           refine oq (qv_mv (Value.int .i64 0) rfl) ?_
           refine ops_nil ?_
           refine vc_block ?_
           let ζ1 : Asrt := Arr 25 b2 [(.int .i64 A0.v), lva, nva, (.int .i64 A0.r)]
           let ζ5 : Asrt := Gr 3 1 rv R.length ((R.map (Value.int .i64)))
           let ζ6 : Asrt := Arr 25 b4 [(.int .i64 A.v), lvs, nvs, (.int .i64 A.r)]
           let ζ7 : Asrt := Arr 25 b6 [(.int .i64 B0.v), lvc, nvc, (.int .i64 B0.r)]
           let ζ8 : Asrt := Arr 25 b5 [(.int .i64 A.v), lvk, nvk, (.int .i64 A.r)]
           let ζ10 : Asrt := Arr 25 b7 [(.int .i64 P0.v), lvp, nvp, (.int .i64 P0.r)]
           refine vc_loop (α := Int) (fun (xx : Int) => [(0, wv), (1, ov), (5, (Value.int .i64 n)), (6, (.slice (some ⟨b1, 0, none⟩) ((2 : Int) ^ (n : Int).toNat).toNat ((2 : Int) ^ (n : Int).toNat).toNat)), (7, (Value.int .i64 tot)), (9, (Value.pointer (some ⟨b2, 0, none⟩))), (10, (Value.int .i64 0)), (11, rv), (13, (Value.pointer (some ⟨b4, 0, none⟩))), (14, (Value.int .i64 k)), (16, (Value.pointer (some ⟨b5, 0, none⟩))), (17, (Value.int .i64 0)), (18, (Value.pointer (some ⟨b6, 0, none⟩))), (19, (Value.pointer (some ⟨b7, 0, none⟩))), (20, psv), (21, tpv), (22, (Value.int .i64 0)), (23, tuv), (24, (Value.int .i64 0)), (27, (Value.bool false)), (33, (.bool (decide ((2 * (2 : Int) ^ (n : Int).toNat) ≤ (if 64 < ((W.length : Int)) then 64 else (W.length : Int)))))), (40, (.int .i64 ((((2 : Int) ^ (n : Int).toNat).toNat : Int)))), (41, (Value.int .i64 i)), (42, (.bool (decide (i < ((((2 : Int) ^ (n : Int).toNat).toNat : Int)))))), (70, (.bool (decide (0 ≠ 0)))), (71, (Value.int .i64 n)), (72, (Value.int .i64 q)), (73, (.bool (decide (q < n)))), (83, (.bool (decide (0 < ((R.length : Int)))))), (127, (.bool (decide (¬ (A = A))))), (171, (.bool (decide (((((vT B0)).length : Int)) ≠ ((T.length : Int)))))), (173, (.int .i64 ((T.length : Int)))), (174, (Value.int .i64 xx))]) (fun (xx : Int) V' σ' => V10 = V' ∧ [ζ1, ζ5, ζ6, ζ8, ζ7, ζ10] = σ' ∧ 0 ≤ xx ∧ xx ≤ (2 : Int) ^ n.toNat) (fun (xx : Int) => ((2 : Int) ^ n.toNat - xx).toNat) (0) ?_ ?_ ?_
           · exact ⟨rfl, rfl, rfl, rfl, rfl, rfl, rfl, rfl, rfl, rfl, rfl, rfl, rfl, rfl, rfl, rfl, rfl, rfl, rfl, rfl, rfl, rfl, rfl, rfl, rfl, rfl, rfl, rfl, rfl, rfl, rfl, rfl, rfl, trivial⟩
           · exact ⟨rfl, rfl, by omega, by omega⟩
           rintro q e5 V4l σ4l hI4
           obtain ⟨rfl, rfl, i9, i10⟩ : V10 = V4l ∧ [ζ1, ζ5, ζ6, ζ8, ζ7, ζ10] = σ4l ∧ 0 ≤ q ∧ q ≤ (2 : Int) ^ n.toNat := hI4
           refine vc_seq ?_
           refine vc_region ?_
           refine oq (qv_lss rfl rfl) ?_
           refine ops_nil ?_
           refine vc_seq ?_
           refine vc_if rfl (fun c12 => ?_) (fun c12 => ?_)
           ·
            refine vc_skip ?_
            refine vc_seq ?_
            refine vc_block ?_
            refine vc_seq ?_
            refine vc_region ?_
            refine oq (qv_mv (Value.int .i64 q) rfl) ?_
            refine oq (qv_as (Value.int .i64 q) rfl) ?_
            refine ops_nil ?_
            refine vc_seq ?_
            have hpa := pr_at hokA hokB hvA0 (by omega) hpset hvt0 (i := q) (by omega) (by omega)
            have hpa1 := hpa.1.1
            have hpa2 := hpa.1.2
            have hpa3 := hpa.2.1
            have hpa4 := hpa.2.2
            refine vc_region_any Try.mixed (by kernel_rfl) ?_
            refine qq (qv_mv tpv rfl) ?_
            refine qq (qv_mv (Value.int .i64 q) rfl) ?_
            refine qq (qv_iai (v := tpv) (i := q) Try.underlying22 Try.size3 rfl (inVi hTP) rfl (by omega) (by omega)) ?_
            refine qq (qv_ldi (v := tpv) (i := q) Try.plain3 rfl (inVi hTP) (by omega) (by omega)) ?_
            refine qq (qv_lss rfl rfl) ?_
            refine qq (qv_mv (.bool (decide ((gi ((prT A0 B0 S)) (q)) < 0))) rfl) ?_
            by_cases g4 : (gi ((prT A0 B0 S)) (q)) < 0
            ·
             refine qs (want_fn g4 rfl rfl rfl) ?_
             refine qs (want_fn g4 rfl rfl rfl) ?_
             refine qs (want_fn g4 rfl rfl rfl) ?_
             refine qs (want_fn g4 rfl rfl rfl) ?_
             refine qs (want_fn g4 rfl rfl rfl) ?_
             refine qs (want_fn g4 rfl rfl rfl) ?_
             refine qs (want_fn g4 rfl rfl rfl) ?_
             refine qq (qv_pick_t g4 rfl (rfl : ev _ _ = (Value.bool true))) ?_
             refine qq (qv_mv (Value.bool true) rfl) ?_
             refine qs (want_fnc rfl rfl rfl) ?_
             refine qs (want_fnc rfl rfl rfl) ?_
             refine qs (want_fnc rfl rfl rfl) ?_
             refine qs (want_fnc rfl rfl rfl) ?_
             refine qs (want_fnc rfl rfl rfl) ?_
             refine qs (want_fnc rfl rfl rfl) ?_
             refine qs (want_fnc rfl rfl rfl) ?_
             refine qs (want_fnc rfl rfl rfl) ?_
             refine qs (want_fnc rfl rfl rfl) ?_
             refine qs (want_fnc rfl rfl rfl) ?_
             refine qs (want_fnc rfl rfl rfl) ?_
             refine qs (want_fnc rfl rfl rfl) ?_
             refine qs (want_fnc rfl rfl rfl) ?_
             refine qs (want_fnc rfl rfl rfl) ?_
             refine qs (want_fnc rfl rfl rfl) ?_
             refine qs (want_fnc rfl rfl rfl) ?_
             refine qs (want_fnc rfl rfl rfl) ?_
             refine qq (qv_pick_tc rfl (rfl : ev _ _ = (Value.bool true))) ?_
             refine qops_nil ?_
             refine vc_tt rfl ?_
             refine vc_seq ?_
             refine vc_region ?_
             refine oq (qv_as (Value.bool false) rfl) ?_
             refine ops_nil ?_
             refine vc_drop [] [ζ1, ζ5, ζ6, ζ8, ζ7, ζ10] (.refl _) ?_
             refine vc_ret ?_
             refine blockQ_ret ?_
             refine blockQ_ret ?_
             exact rq1 (Value.bool true) (by first | rfl | (first | rfl | omega)) rfl
            ·
             refine qg (qv_mv tpv rfl) (want_f g4 rfl rfl rfl) ?_
             refine qg (qv_mv (Value.int .i64 q) rfl) (want_f g4 rfl rfl rfl) ?_
             refine qg (qv_iai (v := tpv) (i := q) Try.underlying22 Try.size3 rfl (inVi hTP) rfl (by omega) (by omega)) (want_f g4 rfl rfl rfl) ?_
             refine qg (qv_ldi (v := tpv) (i := q) Try.plain3 rfl (inVi hTP) (by omega) (by omega)) (want_f g4 rfl rfl rfl) ?_
             refine qg (qv_mv psv rfl) (want_f g4 rfl rfl rfl) ?_
             refine qg (qv_lenSS Try.underlying47 rfl hPS) (want_f g4 rfl rfl rfl) ?_
             refine qg (qv_geq rfl rfl) (want_f g4 rfl rfl rfl) ?_
             refine qq (qv_pick_f g4 rfl (rfl : ev _ _ = (.bool (decide (((S.length : Int)) ≤ (gi ((prT A0 B0 S)) (q))))))) ?_
             refine qq (qv_mv (.bool (decide (((S.length : Int)) ≤ (gi ((prT A0 B0 S)) (q))))) rfl) ?_
             by_cases g5 : ((S.length : Int)) ≤ (gi ((prT A0 B0 S)) (q))
             ·
              refine qs (want_fn g5 rfl rfl rfl) ?_
              refine qs (want_fn g5 rfl rfl rfl) ?_
              refine qs (want_fn g5 rfl rfl rfl) ?_
              refine qs (want_fn g5 rfl rfl rfl) ?_
              refine qs (want_fn g5 rfl rfl rfl) ?_
              refine qs (want_fn g5 rfl rfl rfl) ?_
              refine qs (want_fn g5 rfl rfl rfl) ?_
              refine qs (want_fn g5 rfl rfl rfl) ?_
              refine qs (want_fn g5 rfl rfl rfl) ?_
              refine qs (want_fn g5 rfl rfl rfl) ?_
              refine qs (want_fn g5 rfl rfl rfl) ?_
              refine qs (want_fn g5 rfl rfl rfl) ?_
              refine qs (want_fn g5 rfl rfl rfl) ?_
              refine qs (want_fn g5 rfl rfl rfl) ?_
              refine qs (want_fn g5 rfl rfl rfl) ?_
              refine qs (want_fn g5 rfl rfl rfl) ?_
              refine qs (want_fn g5 rfl rfl rfl) ?_
              refine qq (qv_pick_t g5 rfl (rfl : ev _ _ = (Value.bool true))) ?_
              refine qops_nil ?_
              refine vc_tt rfl ?_
              refine vc_seq ?_
              refine vc_region ?_
              refine oq (qv_as (Value.bool false) rfl) ?_
              refine ops_nil ?_
              refine vc_drop [] [ζ1, ζ5, ζ6, ζ8, ζ7, ζ10] (.refl _) ?_
              refine vc_ret ?_
              refine blockQ_ret ?_
              refine blockQ_ret ?_
              exact rq1 (Value.bool true) (by first | rfl | (first | rfl | omega)) rfl
             ·
              refine qg (qv_mv psv rfl) (want_f g5 rfl rfl rfl) ?_
              refine qg (qv_mv tpv rfl) (want_f g5 rfl rfl rfl) ?_
              refine qg (qv_mv (Value.int .i64 q) rfl) (want_f g5 rfl rfl rfl) ?_
              refine qg (qv_iai (v := tpv) (i := q) Try.underlying22 Try.size3 rfl (inVi hTP) rfl (by omega) (by omega)) (want_f g5 rfl rfl rfl) ?_
              refine qg (qv_ldi (v := tpv) (i := q) Try.plain3 rfl (inVi hTP) (by omega) (by omega)) (want_f g5 rfl rfl rfl) ?_
              refine qg (qv_ias (v := psv) (i := gi ((prT A0 B0 S)) (q)) Try.underlying47 Try.size51 rfl hPS rfl (by omega) (by omega)) (want_f g5 rfl rfl rfl) ?_
              refine qg (qv_lds (v := psv) (i := gi ((prT A0 B0 S)) (q)) (vs := [(.int .i64 ((p2 S (gi ((prT A0 B0 S)) (q))).a)), (.int .i64 ((p2 S (gi ((prT A0 B0 S)) (q))).b))]) Try.agg51 rfl hPS (by omega) (by omega) (p2s_at (by omega) (by omega))) (want_f g5 rfl rfl rfl) ?_
              refine qg (qv_mv ζ2 rfl) (want_f g5 rfl rfl rfl) ?_
              refine qg (qv_mv (Value.int .i64 q) rfl) (want_f g5 rfl rfl rfl) ?_
              refine qg (qv_iai (v := ζ2) (i := q) Try.underlying22 Try.size3 rfl (inVi hT) rfl (by omega) (by omega)) (want_f g5 rfl rfl rfl) ?_
              refine qg (qv_ldi (v := ζ2) (i := q) Try.plain3 rfl (inVi hT) (by omega) (by omega)) (want_f g5 rfl rfl rfl) ?_
              refine qg (qv_mv tuv rfl) (want_f g5 rfl rfl rfl) ?_
              refine qg (qv_mv (Value.int .i64 q) rfl) (want_f g5 rfl rfl rfl) ?_
              refine qg (qv_iai (v := tuv) (i := q) Try.underlying22 Try.size3 rfl (inVi hTU) rfl (by omega) (by omega)) (want_f g5 rfl rfl rfl) ?_
              refine qg (qv_ldi (v := tuv) (i := q) Try.plain3 rfl (inVi hTU) (by omega) (by omega)) (want_f g5 rfl rfl rfl) ?_
              refine qg (qv_build (out := [(.int .i64 (gi T (q))), (.int .i64 (gi ((vT B0)) (q)))]) Try.build51 [(0, [(.int .i64 (gi T (q)))]), (1, [(.int .i64 (gi ((vT B0)) (q)))])] rfl rfl) (want_f g5 rfl rfl rfl) ?_
              refine qg (qv_neqs Try.eq51 [(p2 S (gi ((prT A0 B0 S)) (q))).a, (p2 S (gi ((prT A0 B0 S)) (q))).b] [gi T (q), gi ((vT B0)) (q)] rfl rfl rfl rfl rfl rfl eq2) (want_f g5 rfl rfl rfl) ?_
              refine qq (qv_pick_f g5 rfl (rfl : ev _ _ = (.bool (decide (¬ (((p2 S (gi ((prT A0 B0 S)) (q))).a) = (gi T (q)) ∧ ((p2 S (gi ((prT A0 B0 S)) (q))).b) = (gi ((vT B0)) (q)))))))) ?_
              refine qops_nil ?_
              refine vc_if rfl (fun c13 => ?_) (fun c13 => ?_)
              ·
               exact absurd ⟨hpa3, hpa4⟩ c13
              ·
               refine vc_skip ?_
               refine vc_region ?_
               refine oq (qv_add rfl rfl (by omega)) ?_
               refine oq (qv_mv (.int .i64 (q + 1)) rfl) ?_
               refine ops_nil ?_
               refine ⟨(q + 1), ⟨rfl, rfl, rfl, rfl, rfl, rfl, rfl, rfl, rfl, rfl, rfl, rfl, rfl, rfl, rfl, rfl, rfl, rfl, rfl, rfl, rfl, rfl, rfl, rfl, rfl, rfl, rfl, rfl, rfl, rfl, rfl, rfl, (congrArg (Value.int .i64) (show (q + 1) = ((q + 1)) from by omega)), trivial⟩, ⟨rfl, rfl, by omega, by omega⟩, by omega⟩
           ·
            refine vc_exit ?_
            refine blockQ_hit ?_
            refine vc_seq ?_
            refine vc_region ?_
            refine oq (qv_as (Value.bool true) rfl) ?_
            refine ops_nil ?_
            refine vc_drop [] [ζ1, ζ5, ζ6, ζ8, ζ7, ζ10] (.refl _) ?_
            refine vc_ret ?_
            exact rq1 (Value.bool true) rfl rfl

end Go.Proofs.Ytkmhjcjpohpiaaa
