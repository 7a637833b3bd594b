/- The combination of up to three diagrams: what its recursive walk keeps. No program in sight. -/
import Derived.Test.YtgehdgeiikjohaaBdW
namespace Go.Proofs.Ytgehdgeiikjohaa
open Go Go.Vc
open Classical
abbrev K3r := Int × Int × Int
abbrev kl (k : K3r) : List Int := [k.1, k.2.1, k.2.2]
abbrev kg (k : K3r) (i : Int) : Int := gi (kl k) i
def kv (k : K3r) : Value := .agg ((kl k).map (Value.int .i64)).toArray
/-- Good references: one in each diagram, 0 where there is no diagram. -/
def KOk (Ds : List Dg) (k : K3r) : Prop := ∀ i : Int, 0 ≤ i → i < 3 → Rf (dg Ds i).N (kg k i) ∧ (Ds.length ≤ i → kg k i = 0)
def tpN (vars : Int) (Ds : List Dg) (k : K3r) : Nat → Int
  | 0 => vars
  | n + 1 => if lev vars (dg Ds n).N (kg k n) < tpN vars Ds k n then lev vars (dg Ds n).N (kg k n) else tpN vars Ds k n
/-- The least level. -/
def mlv (vars : Int) (Ds : List Dg) (k : K3r) : Int := tpN vars Ds k 3
def gF (Ds : List Dg) (F : Bool → Bool → Bool → Bool) (k : K3r) (e : Int → Bool) : Bool :=
  F (vl (dg Ds 0).N e (kg k 0)) (vl (dg Ds 1).N e (kg k 1)) (vl (dg Ds 2).N e (kg k 2))
/-- What all diagrams of the list are. -/
structure DsOk (vars : Int) (Ds : List Dg) : Prop where
  v0 : 0 ≤ vars
  v1 : vars ≤ 40
  le : Ds.length ≤ 3
  fm : ∀ i : Int, 0 ≤ i → Fm vars (dg Ds i).N
theorem dg_out {Ds : List Dg} {i : Int} (h0 : 0 ≤ i) (h : Ds.length ≤ i) : dg Ds i = ⟨0, [], 0⟩ := by
  unfold dg; rw [List.getD_eq_getElem?_getD, List.getElem?_eq_none (by omega)]; rfl
theorem fm_nil {vars : Int} : Fm vars [] where
  vr := fun r h0 h1 => by have h1 : r < 2 + ((0 : Nat) : Int) := h1; omega
  ne := fun r h0 h1 => by have h1 : r < 2 + ((0 : Nat) : Int) := h1; omega
  lo := fun r h0 h1 => by have h1 : r < 2 + ((0 : Nat) : Int) := h1; omega
  hi := fun r h0 h1 => by have h1 : r < 2 + ((0 : Nat) : Int) := h1; omega
  uq := fun r s h0 h1 => by have h1 : r < 2 + ((0 : Nat) : Int) := h1; omega
section
variable {vars : Int} {Ds : List Dg} {k : K3r} {F : Bool → Bool → Bool → Bool}
theorem tpN_le (n : Nat) : tpN vars Ds k n ≤ vars := by
  induction n with
  | zero => exact Int.le_refl _
  | succ n ih =>
    show (if lev vars (dg Ds n).N (kg k n) < tpN vars Ds k n then lev vars (dg Ds n).N (kg k n) else tpN vars Ds k n) ≤ vars
    split <;> omega
theorem tpN_el {n i : Nat} (h : i < n) : tpN vars Ds k n ≤ lev vars (dg Ds i).N (kg k i) := by
  induction n with
  | zero => omega
  | succ n ih =>
    show (if lev vars (dg Ds n).N (kg k n) < tpN vars Ds k n then lev vars (dg Ds n).N (kg k n) else tpN vars Ds k n) ≤ _
    by_cases e : i = n
    · subst e; split <;> omega
    · have := ih (by omega)
      split <;> omega
theorem tpN_nn (d : DsOk vars Ds) (h : KOk Ds k) : ∀ n : Nat, n ≤ 3 → 0 ≤ tpN vars Ds k n
  | 0, _ => d.v0
  | n + 1, hn => by
    have a := tpN_nn d h n (by omega)
    have b := (d.fm n (by omega)).lev_nn d.v0 (h n (by omega) (by omega)).1
    show 0 ≤ if lev vars (dg Ds n).N (kg k n) < tpN vars Ds k n then lev vars (dg Ds n).N (kg k n) else tpN vars Ds k n
    split <;> omega
/-- It is the level of one of them. -/
theorem tpN_at : ∀ n : Nat, tpN vars Ds k n = vars ∨ ∃ i, i < n ∧ tpN vars Ds k n = lev vars (dg Ds i).N (kg k i)
  | 0 => Or.inl rfl
  | n + 1 => by
    show (if lev vars (dg Ds n).N (kg k n) < tpN vars Ds k n then lev vars (dg Ds n).N (kg k n) else tpN vars Ds k n) = vars ∨ ∃ i, i < n + 1 ∧ (if lev vars (dg Ds n).N (kg k n) < tpN vars Ds k n then lev vars (dg Ds n).N (kg k n) else tpN vars Ds k n) = _
    by_cases q : lev vars (dg Ds n).N (kg k n) < tpN vars Ds k n
    · rw [if_pos q]; exact Or.inr ⟨n, by omega, rfl⟩
    · rw [if_neg q]
      rcases tpN_at n with e | ⟨i, hi, e⟩
      · exact Or.inl e
      · exact Or.inr ⟨i, by omega, e⟩
theorem tpN_all (h : KOk Ds k) {n : Nat} (h1 : n ≤ 3) (h2 : Ds.length ≤ n) : tpN vars Ds k n = mlv vars Ds k := by
  have key : ∀ m : Nat, Ds.length ≤ m → m < 3 → tpN vars Ds k (m + 1) = tpN vars Ds k m := fun m a b => by
    have e := (h m (by omega) (by omega)).2 (by omega)
    have l : lev vars (dg Ds m).N (kg k m) = vars := by rw [e]; exact lev_const (by omega)
    have t := tpN_le (vars := vars) (Ds := Ds) (k := k) m
    show (if lev vars (dg Ds m).N (kg k m) < tpN vars Ds k m then lev vars (dg Ds m).N (kg k m) else tpN vars Ds k m) = _
    rw [l, if_neg (by omega)]
  unfold mlv
  by_cases e3 : n = 3
  · rw [e3]
  · rw [key 2 (by omega) (by omega)]
    by_cases e2 : n = 2
    · rw [e2]
    · rw [key 1 (by omega) (by omega)]
      by_cases e1 : n = 1
      · rw [e1]
      · rw [key 0 (by omega) (by omega), show n = 0 by omega]
theorem mlv_le {i : Int} (h0 : 0 ≤ i) (h1 : i < 3) : mlv vars Ds k ≤ lev vars (dg Ds i).N (kg k i) := by
  have := tpN_el (vars := vars) (Ds := Ds) (k := k) (n := 3) (i := i.toNat) (by omega)
  rwa [show ((i.toNat : Nat) : Int) = i by omega] at this
theorem mlv_bd (d : DsOk vars Ds) (h : KOk Ds k) : 0 ≤ mlv vars Ds k ∧ mlv vars Ds k ≤ vars := ⟨tpN_nn d h 3 (by omega), tpN_le 3⟩
/- leaves -/
def bt (Ds : List Dg) (k : K3r) (n j : Nat) : Prop := j < n ∧ kg k j = 1
noncomputable def btL (Ds : List Dg) (k : K3r) (n : Nat) : List Value := [.bool (decide (bt Ds k n 0)), .bool (decide (bt Ds k n 1)), .bool (decide (bt Ds k n 2))]
theorem btL_0 : btL Ds k 0 = [.bool false, .bool false, .bool false] := by
  have h : ∀ j, ¬ bt Ds k 0 j := fun j q => by have := q.1; omega
  unfold btL
  rw [decide_eq_false (h 0), decide_eq_false (h 1), decide_eq_false (h 2)]
theorem bt_same {n j : Nat} (h : j ≠ n) : bt Ds k (n + 1) j ↔ bt Ds k n j := ⟨fun q => ⟨by have := q.1; omega, q.2⟩, fun q => ⟨by have := q.1; omega, q.2⟩⟩
theorem bt_new {n : Nat} : bt Ds k (n + 1) n ↔ kg k n = 1 := ⟨fun q => q.2, fun q => ⟨by omega, q⟩⟩
theorem btL_step {i : Int} (h0 : 0 ≤ i) (h1 : i < 3) : (btL Ds k i.toNat).set (0 + i.toNat) (.bool (decide (gi [k.1, k.2.1, k.2.2] i = 1))) = btL Ds k (i + 1).toNat := by
  have hi : i = 0 ∨ i = 1 ∨ i = 2 := by omega
  have key : ∀ n : Nat, (decide (bt Ds k (n + 1) n)) = decide (kg k n = 1) := fun n => decide_eq_decide.2 bt_new
  have oth : ∀ n j : Nat, j ≠ n → (decide (bt Ds k (n + 1) j)) = decide (bt Ds k n j) := fun n j h => decide_eq_decide.2 (bt_same h)
  rcases hi with rfl | rfl | rfl
  · show [_, _, _] = [Value.bool (decide (bt Ds k (0 + 1) 0)), Value.bool (decide (bt Ds k (0 + 1) 1)), Value.bool (decide (bt Ds k (0 + 1) 2))]
    rw [key 0, oth 0 1 (by omega), oth 0 2 (by omega)]; rfl
  · show [_, _, _] = [Value.bool (decide (bt Ds k (1 + 1) 0)), Value.bool (decide (bt Ds k (1 + 1) 1)), Value.bool (decide (bt Ds k (1 + 1) 2))]
    rw [key 1, oth 1 0 (by omega), oth 1 2 (by omega)]; rfl
  · show [_, _, _] = [Value.bool (decide (bt Ds k (2 + 1) 0)), Value.bool (decide (bt Ds k (2 + 1) 1)), Value.bool (decide (bt Ds k (2 + 1) 2))]
    rw [key 2, oth 2 0 (by omega), oth 2 1 (by omega)]; rfl
theorem bt_vl (d : DsOk vars Ds) (h : KOk Ds k) (ht : mlv vars Ds k = vars) {n : Nat} (h2 : Ds.length ≤ n) (e : Int → Bool) {j : Nat} (hj : j < 3) : decide (bt Ds k n j) = vl (dg Ds j).N e (kg k j) := by
  have hk := h j (by omega) (by omega)
  have hlt : kg k j < 2 := (d.fm j (by omega)).lev_node_lt hk.1 (by have := mlv_le (vars := vars) (Ds := Ds) (k := k) (i := j) (by omega) (by omega); have := (d.fm j (by omega)).lev_le hk.1; omega)
  rw [vl_const hlt]
  refine decide_eq_decide.2 ⟨fun q => q.2, fun q => ⟨?_, q⟩⟩
  refine Classical.byContradiction fun z => ?_
  have := hk.2 (by omega)
  omega
theorem leaf_val (d : DsOk vars Ds) (h : KOk Ds k) (ht : mlv vars Ds k = vars) {n : Nat} (h2 : Ds.length ≤ n) (e : Int → Bool) : F (decide (bt Ds k n 0)) (decide (bt Ds k n 1)) (decide (bt Ds k n 2)) = gF Ds F k e := by
  unfold gF
  rw [bt_vl d h ht h2 e (j := 0) (by omega), bt_vl d h ht h2 e (j := 1) (by omega), bt_vl d h ht h2 e (j := 2) (by omega)]
  rfl
/- the references below -/
noncomputable def lw (vars : Int) (Ds : List Dg) (k : K3r) (tp : Int) (hi : Prop) (n j : Nat) : Int := if j < n then fol vars (dg Ds j).N (kg k j) tp hi else kg k j
noncomputable def lwL (vars : Int) (Ds : List Dg) (k : K3r) (tp : Int) (hi : Prop) (n : Nat) : K3r := (lw vars Ds k tp hi n 0, lw vars Ds k tp hi n 1, lw vars Ds k tp hi n 2)
theorem lw_0 {tp : Int} {hi : Prop} {j : Nat} : lw vars Ds k tp hi 0 j = kg k j := if_neg (by omega)
theorem lw_same {tp : Int} {hi : Prop} {n j : Nat} (h : j ≠ n) : lw vars Ds k tp hi (n + 1) j = lw vars Ds k tp hi n j := by
  unfold lw
  by_cases q : j < n
  · rw [if_pos q, if_pos (by omega)]
  · rw [if_neg q, if_neg (by omega)]
theorem lw_new {tp : Int} {hi : Prop} {n : Nat} : lw vars Ds k tp hi (n + 1) n = fol vars (dg Ds n).N (kg k n) tp hi := if_pos (by omega)
def lwV (l : K3r) : List Value := [.int .i64 l.1, .int .i64 l.2.1, .int .i64 l.2.2]
theorem lwL_0 {tp : Int} {hi : Prop} : lwL vars Ds k tp hi 0 = k := by
  unfold lwL; rw [lw_0, lw_0, lw_0]; rfl
theorem lwL_step {tp : Int} {hi : Prop} {i : Int} (h0 : 0 ≤ i) (h1 : i < 3) : (lwV (lwL vars Ds k tp hi i.toNat)).set (0 + i.toNat) (.int .i64 (fol vars (dg Ds i).N (gi [k.1, k.2.1, k.2.2] i) tp hi)) = lwV (lwL vars Ds k tp hi (i + 1).toNat) := by
  have hi' : i = 0 ∨ i = 1 ∨ i = 2 := by omega
  rcases hi' with rfl | rfl | rfl
  · show [_, _, _] = lwV (lw vars Ds k tp hi (0 + 1) 0, lw vars Ds k tp hi (0 + 1) 1, lw vars Ds k tp hi (0 + 1) 2)
    rw [lw_new, lw_same (j := 1) (by omega), lw_same (j := 2) (by omega)]; rfl
  · show [_, _, _] = lwV (lw vars Ds k tp hi (1 + 1) 0, lw vars Ds k tp hi (1 + 1) 1, lw vars Ds k tp hi (1 + 1) 2)
    rw [lw_new, lw_same (j := 0) (by omega), lw_same (j := 2) (by omega)]; rfl
  · show [_, _, _] = lwV (lw vars Ds k tp hi (2 + 1) 0, lw vars Ds k tp hi (2 + 1) 1, lw vars Ds k tp hi (2 + 1) 2)
    rw [lw_new, lw_same (j := 0) (by omega), lw_same (j := 1) (by omega)]; rfl
/-- The keys below. -/
noncomputable def lk_ (vars : Int) (Ds : List Dg) (k : K3r) (hi : Prop) : K3r := lwL vars Ds k (mlv vars Ds k) hi Ds.length
theorem fol_rf {N' : List Fk} (f : Fm vars N') {r x : Int} {hi : Prop} (h : Rf N' r) (hx : x < vars) (hl : x ≤ lev vars N' r) : Rf N' (fol vars N' r x hi) ∧ x < lev vars N' (fol vars N' r x hi) := by
  by_cases q : lev vars N' r = x
  · have h2 : 2 ≤ r := by
      refine Classical.byContradiction fun z => ?_
      rw [lev_const (by omega)] at q; omega
    have q2 := q
    rw [lev_node (by omega)] at q2
    have a := f.lo r h2 h.2
    have b := f.hi r h2 h.2
    have h3 := h.2
    by_cases p : hi
    · rw [fol_h q p]; exact ⟨⟨b.1, by omega⟩, by omega⟩
    · rw [fol_l q p]; exact ⟨⟨a.1, by omega⟩, by omega⟩
  · rw [fol_0 q]; exact ⟨h, by omega⟩
theorem fol_vl {N' : List Fk} (f : Fm vars N') {r x : Int} {hi : Prop} (h : Rf N' r) (hx : x < vars) (e : Int → Bool) (he : e x = true ↔ hi) : vl N' e (fol vars N' r x hi) = vl N' e r := by
  by_cases q : lev vars N' r = x
  · have h2 : 2 ≤ r := by
      refine Classical.byContradiction fun z => ?_
      rw [lev_const (by omega)] at q; omega
    have q2 := q
    rw [lev_node (by omega)] at q2
    rw [vl_step f h2 h.2 (r := r), q2]
    by_cases p : hi
    · rw [fol_h q p, if_pos (he.2 p)]
    · rw [fol_l q p, if_neg fun z => p (he.1 z)]
  · rw [fol_0 q]
theorem lk_el {hi : Prop} {i : Nat} (h1 : i < 3) : kg (lk_ vars Ds k hi) i = if i < Ds.length then fol vars (dg Ds i).N (kg k i) (mlv vars Ds k) hi else kg k i := by
  have : i = 0 ∨ i = 1 ∨ i = 2 := by omega
  rcases this with rfl | rfl | rfl <;> rfl
theorem lk_ok (d : DsOk vars Ds) (h : KOk Ds k) (ht : mlv vars Ds k < vars) (hi : Prop) : KOk Ds (lk_ vars Ds k hi) ∧ mlv vars Ds k < mlv vars Ds (lk_ vars Ds k hi) := by
  have each : ∀ i : Nat, i < 3 → Rf (dg Ds i).N (kg (lk_ vars Ds k hi) i) ∧ (Ds.length ≤ i → kg (lk_ vars Ds k hi) i = 0) ∧ mlv vars Ds k < lev vars (dg Ds i).N (kg (lk_ vars Ds k hi) i) := fun i hi3 => by
    have hk := h i (by omega) (by omega)
    rw [lk_el hi3]
    by_cases q : i < Ds.length
    · rw [if_pos q]
      have := fol_rf (d.fm i (by omega)) (hi := hi) hk.1 ht (mlv_le (by omega) (by omega))
      exact ⟨this.1, fun z => by omega, this.2⟩
    · rw [if_neg q]
      have e := hk.2 (by omega)
      refine ⟨hk.1, fun z => hk.2 (by omega), ?_⟩
      rw [e, lev_const (by omega)]; exact ht
  refine ⟨fun i h0 h1 => ?_, ?_⟩
  · have := each i.toNat (by omega)
    rw [show ((i.toNat : Nat) : Int) = i by omega] at this
    exact ⟨this.1, fun z => this.2.1 (by omega)⟩
  · rcases tpN_at (vars := vars) (Ds := Ds) (k := lk_ vars Ds k hi) 3 with e | ⟨i, h3, e⟩
    · unfold mlv at ht ⊢; rw [e]; exact ht
    · have := (each i h3).2.2
      show _ < tpN vars Ds (lk_ vars Ds k hi) 3
      rw [e]; exact this
theorem lk_gF (d : DsOk vars Ds) (h : KOk Ds k) (ht : mlv vars Ds k < vars) {hi : Prop} {e : Int → Bool} (he : e (mlv vars Ds k) = true ↔ hi) : gF Ds F (lk_ vars Ds k hi) e = gF Ds F k e := by
  have each : ∀ i : Nat, i < 3 → vl (dg Ds i).N e (kg (lk_ vars Ds k hi) i) = vl (dg Ds i).N e (kg k i) := fun i hi3 => by
    have hk := h i (by omega) (by omega)
    rw [lk_el hi3]
    by_cases q : i < Ds.length
    · rw [if_pos q]; exact fol_vl (d.fm i (by omega)) hk.1 ht e he
    · rw [if_neg q]
  unfold gF
  have e0 : vl (dg Ds 0).N e (kg (lk_ vars Ds k hi) 0) = vl (dg Ds 0).N e (kg k 0) := each 0 (by omega)
  have e1 : vl (dg Ds 1).N e (kg (lk_ vars Ds k hi) 1) = vl (dg Ds 1).N e (kg k 1) := each 1 (by omega)
  have e2 : vl (dg Ds 2).N e (kg (lk_ vars Ds k hi) 2) = vl (dg Ds 2).N e (kg k 2) := each 2 (by omega)
  rw [e0, e1, e2]
end
/-- What one reference stands for. -/
structure Std (vars : Int) (Ds : List Dg) (F : Bool → Bool → Bool → Bool) (M : List Fk) (k : K3r) (p : Int) : Prop where
  rf : Rf M p
  lv : mlv vars Ds k ≤ lev vars M p
  val : ∀ e, vl M e p = gF Ds F k e
structure CInv (vars : Int) (Ds : List Dg) (F : Bool → Bool → Bool → Bool) (M : List Fk) (Dn : K3r → Option Int) : Prop where
  fm : Fm vars M
  dn : ∀ k p, Dn k = some p → KOk Ds k → Std vars Ds F M k p
structure COk (vars : Int) (Ds : List Dg) (F : Bool → Bool → Bool → Bool) (k : K3r) (M M' : List Fk) (Dn' : K3r → Option Int) (p : Int) : Prop where
  inv : CInv vars Ds F M' Dn'
  ext : ∃ X, M' = M ++ X
  std : Std vars Ds F M' k p
  len : M'.length + 1 ≤ M.length + 2 ^ (vars - mlv vars Ds k).toNat
section
variable {vars : Int} {Ds : List Dg} {k : K3r} {F : Bool → Bool → Bool → Bool} {M : List Fk} {Dn : K3r → Option Int}
theorem Std.up {X : List Fk} {p : Int} (s : Std vars Ds F M k p) (f : Fm vars M) (g : Fm vars (M ++ X)) : Std vars Ds F (M ++ X) k p where
  rf := ⟨s.rf.1, by have := s.rf.2; rw [List.length_append]; omega⟩
  lv := by rw [lev_append s.rf.2]; exact s.lv
  val := fun e => by rw [vl_append f g e p.toNat p s.rf (by omega)]; exact s.val e
theorem CInv.up {X : List Fk} (c : CInv vars Ds F M Dn) (g : Fm vars (M ++ X)) : CInv vars Ds F (M ++ X) Dn := ⟨g, fun k p h hk => (c.dn k p h hk).up c.fm g⟩
theorem CInv.set {p : Int} (c : CInv vars Ds F M Dn) (s : Std vars Ds F M k p) : CInv vars Ds F M (setF Dn k p) := ⟨c.fm, fun q r h hk => by
  by_cases e : q = k
  · subst e; rw [setF_same] at h; cases h; exact s
  · rw [setF_other e] at h; exact c.dn q r h hk⟩
theorem comb0 : CInv vars Ds F [] (fun _ => none) := ⟨fm_nil, fun _ _ h => by cases h⟩
theorem one_le_two_pow' (n : Nat) : 1 ≤ 2 ^ n := Nat.one_le_two_pow
theorem comb_hit {p : Int} (c : CInv vars Ds F M Dn) (hk : KOk Ds k) (h : Dn k = some p) : COk vars Ds F k M M Dn p :=
  ⟨c, ⟨[], by simp⟩, c.dn k p h hk, by have := one_le_two_pow' (vars - mlv vars Ds k).toNat; omega⟩
theorem comb_leaf (c : CInv vars Ds F M Dn) (d : DsOk vars Ds) (hk : KOk Ds k) (ht : mlv vars Ds k = vars) {n : Nat} (h2 : Ds.length ≤ n) {p : Int}
    (hp : p = if F (decide (bt Ds k n 0)) (decide (bt Ds k n 1)) (decide (bt Ds k n 2)) = true then 1 else 0) : COk vars Ds F k M M (setF Dn k p) p := by
  have h01 : 0 ≤ p ∧ p < 2 := by rw [hp]; split <;> omega
  have s : Std vars Ds F M k p := ⟨⟨h01.1, by omega⟩, by rw [lev_const h01.2]; omega, fun e => by
    rw [vl_const h01.2, ← leaf_val d hk ht h2 e, hp]
    cases F (decide (bt Ds k n 0)) (decide (bt Ds k n 1)) (decide (bt Ds k n 2)) <;> rfl⟩
  exact ⟨c.set s, ⟨[], by simp⟩, s, by have := one_le_two_pow' (vars - mlv vars Ds k).toNat; omega⟩
theorem comb_node {M1 M2 : List Fk} {D1 D2 : K3r → Option Int} {p1 p2 : Int} {x : List Fk × Int} (d : DsOk vars Ds) (hk : KOk Ds k) (ht : mlv vars Ds k < vars)
    (A : COk vars Ds F (lk_ vars Ds k False) M M1 D1 p1) (B : COk vars Ds F (lk_ vars Ds k True) M1 M2 D2 p2) (hx : x = nodeR M2 (mlv vars Ds k) p1 p2) : COk vars Ds F k M x.1 (setF D2 k x.2) x.2 := by
  obtain ⟨X1, e1⟩ := A.ext
  obtain ⟨X2, e2⟩ := B.ext
  have l1 := lk_ok d hk ht False
  have l2 := lk_ok d hk ht True
  have mb := mlv_bd d hk
  have g2 : Fm vars (M1 ++ X2) := e2 ▸ B.inv.fm
  have s1 : Std vars Ds F M2 (lk_ vars Ds k False) p1 := by rw [e2]; exact A.std.up A.inv.fm g2
  have n := node_ok B.inv.fm mb.1 ht s1.rf B.std.rf (by have := s1.lv; omega) (by have := B.std.lv; omega)
  rw [← hx] at n
  obtain ⟨X3, e3, l3⟩ := n.ext
  have g3 : Fm vars (M2 ++ X3) := e3 ▸ n.fm
  have s : Std vars Ds F x.1 k x.2 := ⟨n.rf, n.lv, fun e => by
    rw [n.vl e]
    by_cases q : e (mlv vars Ds k) = true
    · rw [if_pos q, B.std.val e, lk_gF d hk ht (by simp [q])]
    · rw [if_neg q, s1.val e, lk_gF d hk ht (by simp [q])]⟩
  refine ⟨?_, ⟨X1 ++ X2 ++ X3, by rw [e3, e2, e1]; simp⟩, s, ?_⟩
  · have := B.inv.up g3
    rw [← e3] at this
    exact this.set s
  · have a := A.len
    have b := B.len
    have w : x.1.length ≤ M2.length + 1 := by rw [e3, List.length_append]; omega
    have m1 : 2 ^ (vars - mlv vars Ds (lk_ vars Ds k False)).toNat ≤ 2 ^ ((vars - mlv vars Ds k).toNat - 1) := Nat.pow_le_pow_right (by omega) (by have := (mlv_bd d l1.1); omega)
    have m2 : 2 ^ (vars - mlv vars Ds (lk_ vars Ds k True)).toNat ≤ 2 ^ ((vars - mlv vars Ds k).toNat - 1) := Nat.pow_le_pow_right (by omega) (by have := (mlv_bd d l2.1); omega)
    have m3 : 2 ^ (vars - mlv vars Ds k).toNat = 2 ^ ((vars - mlv vars Ds k).toNat - 1) + 2 ^ ((vars - mlv vars Ds k).toNat - 1) := by
      conv => lhs; rw [show (vars - mlv vars Ds k).toNat = ((vars - mlv vars Ds k).toNat - 1) + 1 by omega]
      rw [Nat.pow_succ]; omega
    omega
/-- The number of nodes stays small. -/
theorem COk.small {M' : List Fk} {Dn' : K3r → Option Int} {p : Int} (c : COk vars Ds F k M M' Dn' p) (d : DsOk vars Ds) (hk : KOk Ds k) : M'.length + 1 ≤ M.length + 1099511627776 := by
  have := c.len
  have mb := mlv_bd d hk
  have h1 := d.v1
  have : 2 ^ (vars - mlv vars Ds k).toNat ≤ 2 ^ 40 := Nat.pow_le_pow_right (by omega) (by omega)
  omega
theorem tpN_step {i : Int} (h0 : 0 ≤ i) : tpN vars Ds k (i + 1).toNat = if lev vars (dg Ds i).N (kg k i) < tpN vars Ds k i.toNat then lev vars (dg Ds i).N (kg k i) else tpN vars Ds k i.toNat := by
  rw [show (i + 1).toNat = i.toNat + 1 by omega]
  show (if lev vars (dg Ds (i.toNat : Int)).N (kg k (i.toNat : Int)) < _ then lev vars (dg Ds (i.toNat : Int)).N (kg k (i.toNat : Int)) else _) = _
  rw [show ((i.toNat : Nat) : Int) = i by omega]
theorem lk_pow (d : DsOk vars Ds) (hk : KOk Ds k) (ht : mlv vars Ds k < vars) (hi : Prop) : 2 ^ (vars - mlv vars Ds (lk_ vars Ds k hi)).toNat + 2 ^ (vars - mlv vars Ds (lk_ vars Ds k hi)).toNat ≤ 2 ^ (vars - mlv vars Ds k).toNat := by
  have l1 := lk_ok d hk ht hi
  have b := mlv_bd d l1.1
  have m1 : 2 ^ (vars - mlv vars Ds (lk_ vars Ds k hi)).toNat ≤ 2 ^ ((vars - mlv vars Ds k).toNat - 1) := Nat.pow_le_pow_right (by omega) (by omega)
  have m3 : 2 ^ (vars - mlv vars Ds k).toNat = 2 ^ ((vars - mlv vars Ds k).toNat - 1) + 2 ^ ((vars - mlv vars Ds k).toNat - 1) := by
    conv => lhs; rw [show (vars - mlv vars Ds k).toNat = ((vars - mlv vars Ds k).toNat - 1) + 1 by omega]
    rw [Nat.pow_succ]; omega
  omega
end
end Go.Proofs.Ytgehdgeiikjohaa
