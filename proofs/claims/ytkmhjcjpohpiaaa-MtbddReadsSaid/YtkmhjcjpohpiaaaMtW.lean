/- Lists of diagrams in memory. No program in sight. -/
import Derived.Test.YtkmhjcjpohpiaaaMtV
namespace Go.Proofs.Ytkmhjcjpohpiaaa
open Go Go.Vc
open Classical
def dgc (lvs nvs : List Value) (D : List Mg) (i : Nat) : List Value := [.int .i64 (dm D i).v, gv lvs i, gv nvs i, .int .i64 (dm D i).r]
def mdls (lvs nvs : List Value) (D : List Mg) : List Value := (List.range D.length).flatMap (dgc lvs nvs D)
theorem flat4_len (f : Nat → List Value) (hf : ∀ i, (f i).length = 4) : ∀ n, ((List.range n).flatMap f).length = n * 4
  | 0 => rfl
  | n + 1 => by rw [List.range_succ, List.flatMap_append, List.length_append, flat4_len f hf n]; simp [hf]; omega
theorem flat4 (f : Nat → List Value) (hf : ∀ i, (f i).length = 4) : ∀ n i, i < n → (((List.range n).flatMap f).drop (i * 4)).take 4 = f i
  | n + 1, i, hi => by
    have hl := flat4_len f hf n
    rw [List.range_succ, List.flatMap_append]
    by_cases e : i < n
    · rw [List.drop_append_of_le_length (by omega), List.take_append_of_le_length (by rw [List.length_drop]; omega)]
      exact flat4 f hf n i e
    · have : i = n := by omega
      subst this
      rw [show i * 4 = ((List.range i).flatMap f).length by omega, List.drop_left]
      simp only [List.flatMap_cons, List.flatMap_nil, List.append_nil]
      rw [List.take_of_length_le (by rw [hf]; exact Nat.le_refl _)]
theorem mdls_at {lvs nvs : List Value} {D : List Mg} {i : Int} (h0 : 0 ≤ i) (h1 : i < D.length) : ((mdls lvs nvs D).drop (i.toNat * 4)).take 4 = [.int .i64 (dm D i).v, gv lvs i, gv nvs i, .int .i64 (dm D i).r] := by
  unfold mdls
  rw [flat4 _ (fun _ => rfl) D.length i.toNat (by omega)]
  unfold dgc
  rw [show ((i.toNat : Nat) : Int) = i by omega]
theorem mdls_el {lvs nvs : List Value} {D : List Mg} {i : Int} {o : Nat} {u : Value} (h0 : 0 ≤ i) (h1 : i < D.length) (ho : o < 4) (hu : [Value.int .i64 (dm D i).v, gv lvs i, gv nvs i, .int .i64 (dm D i).r][o]? = some u) : (mdls lvs nvs D)[i.toNat * 4 + o]? = some u := by
  rw [← hu, ← mdls_at h0 h1, List.getElem?_take, if_pos ho, List.getElem?_drop]
/-- A list of diagrams in memory. -/
structure Mdl (H : HV) (v : Value) (lvs nvs : List Value) (D : List Mg) : Prop where
  sl : SlS 4 H v D.length (mdls lvs nvs D)
  at_ : ∀ i : Int, 0 ≤ i → i < D.length → Mt H (gv lvs i) (gv nvs i) (dm D i)
theorem Mdl.mono {H H' : HV} {v : Value} {lvs nvs : List Value} {D : List Mg} (h : Mdl H v lvs nvs D) (s : Vc.Sub H H') : Mdl H' v lvs nvs D := ⟨h.sl.mono s, fun i a b => (h.at_ i a b).mono s⟩
theorem Mdl.one {H : HV} {b : Nat} {l n : Value} {A : Mg} (h : Cells H b [.int .i64 A.v, l, n, .int .i64 A.r]) (hA : Mt H l n A) : Mdl H (.slice (some ⟨b, 0, none⟩) 1 1) [l] [n] [A] :=
  ⟨cells_sls (n := 1) (c := 1) h rfl (Nat.le_refl _) (by omega), fun i h0 h1 => by
    have h1 : i < ((1 : Nat) : Int) := h1
    have : i = 0 := by omega
    subst this; exact hA⟩
theorem Mdl.two {H : HV} {b : Nat} {l n l2 n2 : Value} {A B : Mg} (h : Cells H b [.int .i64 A.v, l, n, .int .i64 A.r, .int .i64 B.v, l2, n2, .int .i64 B.r]) (hA : Mt H l n A) (hB : Mt H l2 n2 B) : Mdl H (.slice (some ⟨b, 0, none⟩) 2 2) [l, l2] [n, n2] [A, B] :=
  ⟨cells_sls (n := 2) (c := 2) h rfl (Nat.le_refl _) (by omega), fun i h0 h1 => by
    have h1 : i < ((2 : Nat) : Int) := h1
    rcases (show i = 0 ∨ i = 1 by omega) with rfl | rfl
    · exact hA
    · exact hB⟩
theorem Mdl.three {H : HV} {b : Nat} {l n l2 n2 l3 n3 : Value} {A B C0 : Mg} (h : Cells H b [.int .i64 A.v, l, n, .int .i64 A.r, .int .i64 B.v, l2, n2, .int .i64 B.r, .int .i64 C0.v, l3, n3, .int .i64 C0.r]) (hA : Mt H l n A) (hB : Mt H l2 n2 B) (hC : Mt H l3 n3 C0) : Mdl H (.slice (some ⟨b, 0, none⟩) 3 3) [l, l2, l3] [n, n2, n3] [A, B, C0] :=
  ⟨cells_sls (n := 3) (c := 3) h rfl (Nat.le_refl _) (by omega), fun i h0 h1 => by
    have h1 : i < ((3 : Nat) : Int) := h1
    rcases (show i = 0 ∨ i = 1 ∨ i = 2 by omega) with rfl | rfl | rfl
    · exact hA
    · exact hB
    · exact hC⟩
/- roots -/
abbrev rt (Ds : List Mg) : K3r := ((dm Ds 0).r, (dm Ds 1).r, (dm Ds 2).r)
def rn (Ds : List Mg) (n j : Nat) : Int := if j < n then (dm Ds j).r else 0
def rnL (Ds : List Mg) (n : Nat) : K3r := (rn Ds n 0, rn Ds n 1, rn Ds n 2)
theorem rn_0 {Ds : List Mg} {j : Nat} : rn Ds 0 j = 0 := if_neg (by omega)
theorem rn_same {Ds : List Mg} {n j : Nat} (h : j ≠ n) : rn Ds (n + 1) j = rn Ds n j := by
  unfold rn
  by_cases q : j < n
  · rw [if_pos q, if_pos (by omega)]
  · rw [if_neg q, if_neg (by omega)]
theorem rn_new {Ds : List Mg} {n : Nat} : rn Ds (n + 1) n = (dm Ds n).r := if_pos (by omega)
theorem rnL_step {Ds : List Mg} {i : Int} (h0 : 0 ≤ i) (h1 : i < 3) : (lwV (rnL Ds i.toNat)).set (0 + i.toNat) (.int .i64 (dm Ds i).r) = lwV (rnL Ds (i + 1).toNat) := by
  rcases (show i = 0 ∨ i = 1 ∨ i = 2 by omega) with rfl | rfl | rfl
  · show [_, _, _] = lwV (rn Ds (0 + 1) 0, rn Ds (0 + 1) 1, rn Ds (0 + 1) 2)
    rw [rn_new, rn_same (j := 1) (by omega), rn_same (j := 2) (by omega)]; rfl
  · show [_, _, _] = lwV (rn Ds (1 + 1) 0, rn Ds (1 + 1) 1, rn Ds (1 + 1) 2)
    rw [rn_new, rn_same (j := 0) (by omega), rn_same (j := 2) (by omega)]; rfl
  · show [_, _, _] = lwV (rn Ds (2 + 1) 0, rn Ds (2 + 1) 1, rn Ds (2 + 1) 2)
    rw [rn_new, rn_same (j := 0) (by omega), rn_same (j := 1) (by omega)]; rfl
theorem rnL_all {Ds : List Mg} {n : Nat} (h : Ds.length ≤ n) : rnL Ds n = rt Ds := by
  have key : ∀ j : Nat, rn Ds n j = (dm Ds j).r := fun j => by
    unfold rn
    by_cases q : j < n
    · exact if_pos q
    · rw [if_neg q, dm_out (by omega) (by omega)]; rfl
  show (rn Ds n 0, rn Ds n 1, rn Ds n 2) = _
  rw [key 0, key 1, key 2]; rfl
def Rts (Ds : List Mg) : Prop := ∀ i : Int, 0 ≤ i → i < Ds.length → (mG (dm Ds i)).ok (dm Ds i).r
theorem kg_rt {Ds : List Mg} {i : Int} (h0 : 0 ≤ i) (h1 : i < 3) : kg (rt Ds) i = (dm Ds i).r := by
  rcases (show i = 0 ∨ i = 1 ∨ i = 2 by omega) with rfl | rfl | rfl <;> rfl
theorem rt_ok {Ds : List Mg} (h : Rts Ds) : KOk Ds (rt Ds) := fun i h0 h1 => by
  rw [kg_rt h0 h1]
  by_cases q : i < Ds.length
  · exact ⟨h i h0 q, fun z => by omega⟩
  · rw [dm_out h0 (by omega)]
    exact ⟨⟨by show (0 : Int) ≤ 0; omega, by show (0 : Int) < ((1 : Nat) : Int) + ((0 : Nat) : Int); omega⟩, fun _ => rfl⟩
/- what the walk of a combination asks -/
theorem leaf_idx {vars : Int} {Ds : List Mg} {k : K3r} (d : DsOk vars Ds) (h : KOk Ds k) (ht : mlv vars Ds k = vars) {i : Int} (h0 : 0 ≤ i) (h1 : i < 3) : 0 ≤ kg k i ∧ kg k i < (dm Ds i).L.length := by
  have hk := (h i h0 h1).1
  have hl := mlv_le (vars := vars) (Ds := Ds) (k := k) h0 h1
  have f := d.red i h0
  exact ⟨hk.1, f.lev_lt hk (by have := f.lev_le hk; omega)⟩
def Rng (Ds : List Mg) : Prop := ∀ i : Int, 0 ≤ i → i < Ds.length → ∀ z ∈ (dm Ds i).L, inR z
theorem vw_inR {vars : Int} {Ds : List Mg} {k : K3r} (d : DsOk vars Ds) (h : KOk Ds k) (ht : mlv vars Ds k = vars) (hr : Rng Ds) {n j : Nat} (hn : n ≤ Ds.length) (hj : j < 3) : inR (vw Ds k n j) := by
  unfold vw
  by_cases q : j < n
  · rw [if_pos q]
    have hi := leaf_idx d h ht (i := j) (by omega) (by omega)
    refine hr j (by omega) (by omega) _ ?_
    unfold gi
    rw [List.getD_eq_getElem?_getD, List.getElem?_eq_getElem (by omega)]
    exact List.getElem_mem (by omega)
  · rw [if_neg q]; exact ⟨by omega, by omega⟩
end Go.Proofs.Ytkmhjcjpohpiaaa
