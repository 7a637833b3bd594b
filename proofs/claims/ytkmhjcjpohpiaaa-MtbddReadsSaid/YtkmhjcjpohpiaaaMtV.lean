/- The combination of up to three diagrams: what its recursive walk keeps. No program in sight. -/
import Derived.Test.YtkmhjcjpohpiaaaMtU
namespace Go.Proofs.Ytkmhjcjpohpiaaa
open Go Go.Vc
open Classical
abbrev K3r := Int × Int × Int
abbrev kl (k : K3r) : List Int := [k.1, k.2.1, k.2.2]
abbrev kg (k : K3r) (i : Int) : Int := gi (kl k) i
def kv (k : K3r) : Value := .agg ((kl k).map (Value.int .i64)).toArray
/-- Where there is no diagram: the value 0. -/
def m0 : Mg := ⟨0, [0], [], 0⟩
abbrev dm (Ds : List Mg) (i : Int) : Mg := Ds.getD i.toNat m0
theorem dm_out {Ds : List Mg} {i : Int} (h0 : 0 ≤ i) (h : Ds.length ≤ i) : dm Ds i = m0 := by
  unfold dm; rw [List.getD_eq_getElem?_getD, List.getElem?_eq_none (by omega)]; rfl
/-- A diagram's graph: below the number of its leaves a reference is a leaf. -/
def mG (A : Mg) : Gph where
  ok := fun r => 0 ≤ r ∧ r < A.L.length + A.N.length
  lf := fun r => r < A.L.length
  rk := fun r => gi A.L r
  nd := fun r => fk A.N (r - A.L.length)
  mu := fun r => (r + 1 - A.L.length).toNat
theorem tp_lev {A : Mg} {vars r : Int} (h : A.v = vars) : tp A r = lev vars (mG A) r := by
  by_cases q : r < A.L.length
  · rw [tp_l q, lev_lf (G := mG A) q, h]
  · rw [tp_n q, lev_nd (G := mG A) q]; rfl
theorem red_m0 {vars : Int} : GRed vars (mG m0) where
  vr := fun r h hl => absurd (show r < ((1 : Nat) : Int) by have : r < ((1 : Nat) : Int) + ((0 : Nat) : Int) := h.2; omega) hl
  ne := fun r h hl => absurd (show r < ((1 : Nat) : Int) by have : r < ((1 : Nat) : Int) + ((0 : Nat) : Int) := h.2; omega) hl
  lo := fun r h hl => absurd (show r < ((1 : Nat) : Int) by have : r < ((1 : Nat) : Int) + ((0 : Nat) : Int) := h.2; omega) hl
  hi := fun r h hl => absurd (show r < ((1 : Nat) : Int) by have : r < ((1 : Nat) : Int) + ((0 : Nat) : Int) := h.2; omega) hl
  uq := fun r s h hl => absurd (show r < ((1 : Nat) : Int) by have : r < ((1 : Nat) : Int) + ((0 : Nat) : Int) := h.2; omega) hl
/-- Good references: one in each diagram, 0 where there is no diagram. -/
def KOk (Ds : List Mg) (k : K3r) : Prop := ∀ i : Int, 0 ≤ i → i < 3 → (mG (dm Ds i)).ok (kg k i) ∧ (Ds.length ≤ i → kg k i = 0)
noncomputable def tpN (vars : Int) (Ds : List Mg) (k : K3r) : Nat → Int
  | 0 => vars
  | n + 1 => if lev vars (mG (dm Ds n)) (kg k n) < tpN vars Ds k n then lev vars (mG (dm Ds n)) (kg k n) else tpN vars Ds k n
/-- The least level. -/
noncomputable def mlv (vars : Int) (Ds : List Mg) (k : K3r) : Int := tpN vars Ds k 3
noncomputable def gF (Ds : List Mg) (F : Int → Int → Int → Int) (k : K3r) (e : Int → Bool) : Int :=
  F (gev (mG (dm Ds 0)) e (kg k 0)) (gev (mG (dm Ds 1)) e (kg k 1)) (gev (mG (dm Ds 2)) e (kg k 2))
/-- What all diagrams of the list are. -/
structure DsOk (vars : Int) (Ds : List Mg) : Prop where
  v0 : 0 ≤ vars
  v1 : vars ≤ 40
  le : Ds.length ≤ 3
  red : ∀ i : Int, 0 ≤ i → GRed vars (mG (dm Ds i))
section
variable {vars : Int} {Ds : List Mg} {k : K3r} {F : Int → Int → Int → Int}
theorem tpN_le (n : Nat) : tpN vars Ds k n ≤ vars := by
  induction n with
  | zero => exact Int.le_refl _
  | succ n ih =>
    show (if lev vars (mG (dm Ds n)) (kg k n) < tpN vars Ds k n then lev vars (mG (dm Ds n)) (kg k n) else tpN vars Ds k n) ≤ vars
    split <;> omega
theorem tpN_el {n i : Nat} (h : i < n) : tpN vars Ds k n ≤ lev vars (mG (dm Ds i)) (kg k i) := by
  induction n with
  | zero => omega
  | succ n ih =>
    show (if lev vars (mG (dm Ds n)) (kg k n) < tpN vars Ds k n then lev vars (mG (dm Ds n)) (kg k n) else tpN vars Ds k n) ≤ _
    by_cases e : i = n
    · subst e; split <;> omega
    · have := ih (by omega)
      split <;> omega
theorem tpN_nn (d : DsOk vars Ds) (h : KOk Ds k) : ∀ n : Nat, n ≤ 3 → 0 ≤ tpN vars Ds k n
  | 0, _ => d.v0
  | n + 1, hn => by
    have a := tpN_nn d h n (by omega)
    have b := (d.red n (by omega)).lev_nn d.v0 (h n (by omega) (by omega)).1
    show 0 ≤ if lev vars (mG (dm Ds n)) (kg k n) < tpN vars Ds k n then lev vars (mG (dm Ds n)) (kg k n) else tpN vars Ds k n
    split <;> omega
/-- It is the level of one of them. -/
theorem tpN_at : ∀ n : Nat, tpN vars Ds k n = vars ∨ ∃ i, i < n ∧ tpN vars Ds k n = lev vars (mG (dm Ds i)) (kg k i)
  | 0 => Or.inl rfl
  | n + 1 => by
    show (if lev vars (mG (dm Ds n)) (kg k n) < tpN vars Ds k n then lev vars (mG (dm Ds n)) (kg k n) else tpN vars Ds k n) = vars ∨ ∃ i, i < n + 1 ∧ (if lev vars (mG (dm Ds n)) (kg k n) < tpN vars Ds k n then lev vars (mG (dm Ds n)) (kg k n) else tpN vars Ds k n) = _
    by_cases q : lev vars (mG (dm Ds n)) (kg k n) < tpN vars Ds k n
    · rw [if_pos q]; exact Or.inr ⟨n, by omega, rfl⟩
    · rw [if_neg q]
      rcases tpN_at n with e | ⟨i, hi, e⟩
      · exact Or.inl e
      · exact Or.inr ⟨i, by omega, e⟩
theorem tpN_all (h : KOk Ds k) {n : Nat} (h1 : n ≤ 3) (h2 : Ds.length ≤ n) : tpN vars Ds k n = mlv vars Ds k := by
  have key : ∀ m : Nat, Ds.length ≤ m → m < 3 → tpN vars Ds k (m + 1) = tpN vars Ds k m := fun m a b => by
    have e := (h m (by omega) (by omega)).2 (by omega)
    have l : lev vars (mG (dm Ds m)) (kg k m) = vars := by rw [e, dm_out (by omega) (by omega)]; exact lev_lf (G := mG m0) (by show (0 : Int) < ((1 : Nat) : Int); omega)
    have t := tpN_le (vars := vars) (Ds := Ds) (k := k) m
    show (if lev vars (mG (dm Ds m)) (kg k m) < tpN vars Ds k m then lev vars (mG (dm Ds m)) (kg k m) else tpN vars Ds k m) = _
    rw [l, if_neg (by omega)]
  unfold mlv
  by_cases e3 : n = 3
  · rw [e3]
  · rw [key 2 (by omega) (by omega)]
    by_cases e2 : n = 2
    · rw [e2]
    · rw [key 1 (by omega) (by omega)]
      by_cases e1 : n = 1
      · rw [e1]
      · rw [key 0 (by omega) (by omega), show n = 0 by omega]
theorem mlv_le {i : Int} (h0 : 0 ≤ i) (h1 : i < 3) : mlv vars Ds k ≤ lev vars (mG (dm Ds i)) (kg k i) := by
  have := tpN_el (vars := vars) (Ds := Ds) (k := k) (n := 3) (i := i.toNat) (by omega)
  rwa [show ((i.toNat : Nat) : Int) = i by omega] at this
theorem mlv_bd (d : DsOk vars Ds) (h : KOk Ds k) : 0 ≤ mlv vars Ds k ∧ mlv vars Ds k ≤ vars := ⟨tpN_nn d h 3 (by omega), tpN_le 3⟩
/- leaves -/
def vw (Ds : List Mg) (k : K3r) (n j : Nat) : Int := if j < n then gi (dm Ds j).L (kg k j) else 0
def vwL (Ds : List Mg) (k : K3r) (n : Nat) : K3r := (vw Ds k n 0, vw Ds k n 1, vw Ds k n 2)
theorem vw_0 {j : Nat} : vw Ds k 0 j = 0 := if_neg (by omega)
theorem vw_same {n j : Nat} (h : j ≠ n) : vw Ds k (n + 1) j = vw Ds k n j := by
  unfold vw
  by_cases q : j < n
  · rw [if_pos q, if_pos (by omega)]
  · rw [if_neg q, if_neg (by omega)]
theorem vw_new {n : Nat} : vw Ds k (n + 1) n = gi (dm Ds n).L (kg k n) := if_pos (by omega)
def lwV (l : K3r) : List Value := [.int .i64 l.1, .int .i64 l.2.1, .int .i64 l.2.2]
theorem vwL_step {i : Int} (h0 : 0 ≤ i) (h1 : i < 3) : (lwV (vwL Ds k i.toNat)).set (0 + i.toNat) (.int .i64 (gi (dm Ds i).L (gi [k.1, k.2.1, k.2.2] i))) = lwV (vwL Ds k (i + 1).toNat) := by
  rcases (show i = 0 ∨ i = 1 ∨ i = 2 by omega) with rfl | rfl | rfl
  · show [_, _, _] = lwV (vw Ds k (0 + 1) 0, vw Ds k (0 + 1) 1, vw Ds k (0 + 1) 2)
    rw [vw_new, vw_same (j := 1) (by omega), vw_same (j := 2) (by omega)]; rfl
  · show [_, _, _] = lwV (vw Ds k (1 + 1) 0, vw Ds k (1 + 1) 1, vw Ds k (1 + 1) 2)
    rw [vw_new, vw_same (j := 0) (by omega), vw_same (j := 2) (by omega)]; rfl
  · show [_, _, _] = lwV (vw Ds k (2 + 1) 0, vw Ds k (2 + 1) 1, vw Ds k (2 + 1) 2)
    rw [vw_new, vw_same (j := 0) (by omega), vw_same (j := 1) (by omega)]; rfl
theorem bt_vl (d : DsOk vars Ds) (h : KOk Ds k) (ht : mlv vars Ds k = vars) {n : Nat} (h2 : Ds.length ≤ n) (e : Int → Bool) {j : Nat} (hj : j < 3) : vw Ds k n j = gev (mG (dm Ds j)) e (kg k j) := by
  have hk := h j (by omega) (by omega)
  have hl := mlv_le (vars := vars) (Ds := Ds) (k := k) (i := j) (by omega) (by omega)
  have f := d.red j (by omega)
  have hlf := f.lev_lt hk.1 (by have := f.lev_le hk.1; omega)
  rw [gev_lf hlf]
  by_cases q : j < n
  · exact if_pos q
  · rw [show vw Ds k n j = 0 from if_neg q, hk.2 (by omega), dm_out (by omega) (by omega)]; rfl
theorem leaf_val (d : DsOk vars Ds) (h : KOk Ds k) (ht : mlv vars Ds k = vars) {n : Nat} (h2 : Ds.length ≤ n) (e : Int → Bool) : F (vw Ds k n 0) (vw Ds k n 1) (vw Ds k n 2) = gF Ds F k e := by
  unfold gF
  rw [bt_vl d h ht h2 e (j := 0) (by omega), bt_vl d h ht h2 e (j := 1) (by omega), bt_vl d h ht h2 e (j := 2) (by omega)]
  rfl
/- the references below -/
noncomputable def lw (Ds : List Mg) (k : K3r) (tp : Int) (hi : Prop) (n j : Nat) : Int := if j < n then stp (dm Ds j) (kg k j) tp hi else 0
noncomputable def lwL (Ds : List Mg) (k : K3r) (tp : Int) (hi : Prop) (n : Nat) : K3r := (lw Ds k tp hi n 0, lw Ds k tp hi n 1, lw Ds k tp hi n 2)
theorem lw_0 {tp : Int} {hi : Prop} {j : Nat} : lw Ds k tp hi 0 j = 0 := if_neg (by omega)
theorem lw_same {tp : Int} {hi : Prop} {n j : Nat} (h : j ≠ n) : lw Ds k tp hi (n + 1) j = lw Ds k tp hi n j := by
  unfold lw
  by_cases q : j < n
  · rw [if_pos q, if_pos (by omega)]
  · rw [if_neg q, if_neg (by omega)]
theorem lw_new {tp : Int} {hi : Prop} {n : Nat} : lw Ds k tp hi (n + 1) n = stp (dm Ds n) (kg k n) tp hi := if_pos (by omega)
theorem lwL_step {tp : Int} {hi : Prop} {i : Int} (h0 : 0 ≤ i) (h1 : i < 3) : (lwV (lwL Ds k tp hi i.toNat)).set (0 + i.toNat) (.int .i64 (stp (dm Ds i) (gi [k.1, k.2.1, k.2.2] i) tp hi)) = lwV (lwL Ds k tp hi (i + 1).toNat) := by
  rcases (show i = 0 ∨ i = 1 ∨ i = 2 by omega) with rfl | rfl | rfl
  · show [_, _, _] = lwV (lw Ds k tp hi (0 + 1) 0, lw Ds k tp hi (0 + 1) 1, lw Ds k tp hi (0 + 1) 2)
    rw [lw_new, lw_same (j := 1) (by omega), lw_same (j := 2) (by omega)]; rfl
  · show [_, _, _] = lwV (lw Ds k tp hi (1 + 1) 0, lw Ds k tp hi (1 + 1) 1, lw Ds k tp hi (1 + 1) 2)
    rw [lw_new, lw_same (j := 0) (by omega), lw_same (j := 2) (by omega)]; rfl
  · show [_, _, _] = lwV (lw Ds k tp hi (2 + 1) 0, lw Ds k tp hi (2 + 1) 1, lw Ds k tp hi (2 + 1) 2)
    rw [lw_new, lw_same (j := 0) (by omega), lw_same (j := 1) (by omega)]; rfl
/-- The keys below. -/
noncomputable def lk_ (vars : Int) (Ds : List Mg) (k : K3r) (hi : Prop) : K3r := lwL Ds k (mlv vars Ds k) hi Ds.length
theorem stp_rf {A : Mg} (hv : A.v = vars) (f : GRed vars (mG A)) {r x : Int} {hi : Prop} (h : (mG A).ok r) (hx : x < vars) (hl : x ≤ lev vars (mG A) r) : (mG A).ok (stp A r x hi) ∧ x < lev vars (mG A) (stp A r x hi) := by
  have ht := tp_lev (r := r) hv
  by_cases q : tp A r = x
  · have h2 : ¬ (mG A).lf r := fun z => by rw [lev_lf z] at ht; omega
    have q2 := ht
    rw [lev_nd h2] at q2
    have a := f.lo r h h2
    have b := f.hi r h h2
    by_cases p : hi
    · rw [stp_h q p]; exact ⟨b.1, by have := b.2.2; show x < lev vars (mG A) ((mG A).nd r).h; omega⟩
    · rw [stp_l q p]; exact ⟨a.1, by have := a.2.2; show x < lev vars (mG A) ((mG A).nd r).l; omega⟩
  · rw [stp_0 q]; exact ⟨h, by omega⟩
theorem stp_vl {A : Mg} (hv : A.v = vars) (f : GRed vars (mG A)) {r x : Int} {hi : Prop} (h : (mG A).ok r) (hx : x < vars) (e : Int → Bool) (he : e x = true ↔ hi) : gev (mG A) e (stp A r x hi) = gev (mG A) e r := by
  have ht := tp_lev (r := r) hv
  by_cases q : tp A r = x
  · have h2 : ¬ (mG A).lf r := fun z => by rw [lev_lf z] at ht; omega
    have q2 := ht
    rw [lev_nd h2] at q2
    have e1 : ((mG A).nd r).v = x := by omega
    rw [gev_step f h h2 (r := r), e1]
    by_cases p : hi
    · rw [stp_h q p, if_pos (he.2 p)]; rfl
    · rw [stp_l q p, if_neg fun z => p (he.1 z)]; rfl
  · rw [stp_0 q]
/-- All diagrams speak of the same variables. -/
def SameV (vars : Int) (Ds : List Mg) : Prop := ∀ i : Int, 0 ≤ i → i < Ds.length → (dm Ds i).v = vars
theorem lk_el {hi : Prop} {i : Nat} (h1 : i < 3) : kg (lk_ vars Ds k hi) i = if i < Ds.length then stp (dm Ds i) (kg k i) (mlv vars Ds k) hi else 0 := by
  have : i = 0 ∨ i = 1 ∨ i = 2 := by omega
  rcases this with rfl | rfl | rfl <;> rfl
theorem lk_ok (sv : SameV vars Ds) (d : DsOk vars Ds) (h : KOk Ds k) (ht : mlv vars Ds k < vars) (hi : Prop) : KOk Ds (lk_ vars Ds k hi) ∧ mlv vars Ds k < mlv vars Ds (lk_ vars Ds k hi) := by
  have each : ∀ i : Nat, i < 3 → (mG (dm Ds i)).ok (kg (lk_ vars Ds k hi) i) ∧ (Ds.length ≤ i → kg (lk_ vars Ds k hi) i = 0) ∧ mlv vars Ds k < lev vars (mG (dm Ds i)) (kg (lk_ vars Ds k hi) i) := fun i hi3 => by
    have hk := h i (by omega) (by omega)
    rw [lk_el hi3]
    by_cases q : i < Ds.length
    · rw [if_pos q]
      have := stp_rf (sv i (by omega) (by omega)) (d.red i (by omega)) (hi := hi) hk.1 ht (mlv_le (by omega) (by omega))
      exact ⟨this.1, fun z => by omega, this.2⟩
    · rw [if_neg q]
      have e := hk.2 (by omega)
      have hk1 := hk.1
      rw [e] at hk1
      refine ⟨hk1, fun z => rfl, ?_⟩
      rw [dm_out (by omega) (by omega), lev_lf (G := mG m0) (by show (0 : Int) < ((1 : Nat) : Int); omega)]; exact ht
  refine ⟨fun i h0 h1 => ?_, ?_⟩
  · have := each i.toNat (by omega)
    rw [show ((i.toNat : Nat) : Int) = i by omega] at this
    exact ⟨this.1, fun z => this.2.1 (by omega)⟩
  · rcases tpN_at (vars := vars) (Ds := Ds) (k := lk_ vars Ds k hi) 3 with e | ⟨i, h3, e⟩
    · unfold mlv at ht ⊢; rw [e]; exact ht
    · have := (each i h3).2.2
      show _ < tpN vars Ds (lk_ vars Ds k hi) 3
      rw [e]; exact this
theorem lk_gF (sv : SameV vars Ds) (d : DsOk vars Ds) (h : KOk Ds k) (ht : mlv vars Ds k < vars) {hi : Prop} {e : Int → Bool} (he : e (mlv vars Ds k) = true ↔ hi) : gF Ds F (lk_ vars Ds k hi) e = gF Ds F k e := by
  have each : ∀ i : Nat, i < 3 → gev (mG (dm Ds i)) e (kg (lk_ vars Ds k hi) i) = gev (mG (dm Ds i)) e (kg k i) := fun i hi3 => by
    have hk := h i (by omega) (by omega)
    rw [lk_el hi3]
    by_cases q : i < Ds.length
    · rw [if_pos q]; exact stp_vl (sv i (by omega) (by omega)) (d.red i (by omega)) hk.1 ht e he
    · rw [if_neg q, hk.2 (by omega)]
  unfold gF
  have e0 : gev (mG (dm Ds 0)) e (kg (lk_ vars Ds k hi) 0) = gev (mG (dm Ds 0)) e (kg k 0) := each 0 (by omega)
  have e1 : gev (mG (dm Ds 1)) e (kg (lk_ vars Ds k hi) 1) = gev (mG (dm Ds 1)) e (kg k 1) := each 1 (by omega)
  have e2 : gev (mG (dm Ds 2)) e (kg (lk_ vars Ds k hi) 2) = gev (mG (dm Ds 2)) e (kg k 2) := each 2 (by omega)
  rw [e0, e1, e2]
end
/-- What one reference stands for. -/
structure Std (vars : Int) (Ds : List Mg) (F : Int → Int → Int → Int) (L : List Int) (M : List Fk) (k : K3r) (p : Int) : Prop where
  rf : (bV L M).ok p
  lv : mlv vars Ds k ≤ lev vars (bV L M) p
  val : ∀ e, gev (bV L M) e p = gF Ds F k e
structure CInv (vars : Int) (Ds : List Mg) (F : Int → Int → Int → Int) (L : List Int) (M : List Fk) (Dn : K3r → Option Int) : Prop where
  ok : BOk vars L M
  dn : ∀ k p, Dn k = some p → KOk Ds k → Std vars Ds F L M k p
structure COk (vars : Int) (Ds : List Mg) (F : Int → Int → Int → Int) (k : K3r) (L L' : List Int) (M M' : List Fk) (Dn' : K3r → Option Int) (p : Int) : Prop where
  inv : CInv vars Ds F L' M' Dn'
  ext : ∃ X, L' = L ++ X
  exn : ∃ Y, M' = M ++ Y
  std : Std vars Ds F L' M' k p
  len : M'.length + 1 ≤ M.length + 2 ^ (vars - mlv vars Ds k).toNat
  lel : L'.length ≤ L.length + 2 ^ (vars - mlv vars Ds k).toNat
  rch : ∀ z ∈ L', z ∈ L ∨ ∃ e, gF Ds F k e = z
section
variable {vars : Int} {Ds : List Mg} {k : K3r} {F : Int → Int → Int → Int} {L : List Int} {M : List Fk} {Dn : K3r → Option Int}
theorem Std.up {X : List Int} {Y : List Fk} {p : Int} (s : Std vars Ds F L M k p) (f : GRed vars (bV L M)) (g : GRed vars (bV (L ++ X) (M ++ Y))) : Std vars Ds F (L ++ X) (M ++ Y) k p where
  rf := (bG_sub s.rf).1
  lv := by rw [bG_lev s.rf]; exact s.lv
  val := fun e => by rw [bG_gev f g s.rf e]; exact s.val e
theorem CInv.up {X : List Int} {Y : List Fk} (c : CInv vars Ds F L M Dn) (g : BOk vars (L ++ X) (M ++ Y)) : CInv vars Ds F (L ++ X) (M ++ Y) Dn := ⟨g, fun k p h hk => (c.dn k p h hk).up c.ok.red g.red⟩
theorem CInv.set {p : Int} (c : CInv vars Ds F L M Dn) (s : Std vars Ds F L M k p) : CInv vars Ds F L M (setF Dn k p) := ⟨c.ok, fun q r h hk => by
  by_cases e : q = k
  · subst e; rw [setF_same] at h; cases h; exact s
  · rw [setF_other e] at h; exact c.dn q r h hk⟩
theorem comb0 : CInv vars Ds F [] [] (fun _ => none) := ⟨bok_nil, fun _ _ h => by cases h⟩
theorem one_le_two_pow' (n : Nat) : 1 ≤ 2 ^ n := Nat.one_le_two_pow
theorem comb_hit {p : Int} (c : CInv vars Ds F L M Dn) (hk : KOk Ds k) (h : Dn k = some p) : COk vars Ds F k L L M M Dn p :=
  ⟨c, ⟨[], by simp⟩, ⟨[], by simp⟩, c.dn k p h hk, by have := one_le_two_pow' (vars - mlv vars Ds k).toNat; omega, Nat.le_add_right _ _, fun _ h => .inl h⟩
theorem lfR_mem {L : List Int} {z y : Int} (h : y ∈ (lfR L z).1) : y ∈ L ∨ y = z := by
  unfold lfR at h
  cases q : gx z L with
  | some i => rw [q] at h; exact .inl h
  | none =>
    rw [q] at h
    rcases List.mem_append.1 h with h | h
    · exact .inl h
    · exact .inr (List.mem_singleton.1 h)
theorem lk_rch (sv : SameV vars Ds) (d : DsOk vars Ds) (hk : KOk Ds k) (ht : mlv vars Ds k < vars) {hi : Prop} {z : Int} (h : ∃ e, gF Ds F (lk_ vars Ds k hi) e = z) : ∃ e, gF Ds F k e = z := by
  obtain ⟨e, rfl⟩ := h
  have l := lk_ok sv d hk ht hi
  have hb : up e (mlv vars Ds k) (decide hi) (mlv vars Ds k) = true ↔ hi := by unfold up; rw [if_pos rfl]; simp
  refine ⟨up e (mlv vars Ds k) (decide hi), ?_⟩
  rw [← lk_gF sv d hk ht hb]
  have each : ∀ i : Nat, i < 3 → gev (mG (dm Ds i)) (up e (mlv vars Ds k) (decide hi)) (kg (lk_ vars Ds k hi) i) = gev (mG (dm Ds i)) e (kg (lk_ vars Ds k hi) i) := fun i hi3 =>
    gev_congr (d.red i (by omega)) _ _ (l.1 i (by omega) (by omega)).1 (Nat.le_refl _) fun j hj _ => by
      have := mlv_le (vars := vars) (Ds := Ds) (k := lk_ vars Ds k hi) (i := i) (by omega) (by omega)
      exact if_neg (by omega)
  unfold gF
  have e0 := each 0 (by omega)
  have e1 := each 1 (by omega)
  have e2 := each 2 (by omega)
  simp only [Int.ofNat_zero, show ((0 : Nat) : Int) = 0 from rfl, show ((1 : Nat) : Int) = 1 from rfl, show ((2 : Nat) : Int) = 2 from rfl] at e0 e1 e2
  rw [e0, e1, e2]
theorem comb_leaf (c : CInv vars Ds F L M Dn) (d : DsOk vars Ds) (hk : KOk Ds k) (ht : mlv vars Ds k = vars) {n : Nat} (h2 : Ds.length ≤ n) {x : List Int × Int}
    (hx : x = lfR L (F (vw Ds k n 0) (vw Ds k n 1) (vw Ds k n 2))) : COk vars Ds F k L x.1 M M (setF Dn k x.2) x.2 := by
  have lo := leaf_ok (z := F (vw Ds k n 0) (vw Ds k n 1) (vw Ds k n 2)) c.ok
  have ll := (lfR_len (L := L) (z := F (vw Ds k n 0) (vw Ds k n 1) (vw Ds k n 2))).2
  rw [← hx] at lo ll
  obtain ⟨X, eX⟩ := lo.ext
  have s : Std vars Ds F x.1 M k x.2 := ⟨lo.rf, by rw [lev_lf (G := bV x.1 M) lo.lf]; omega, fun e => by
    rw [gev_lf (G := bV x.1 M) lo.lf, ← leaf_val d hk ht h2 e]; exact lo.vl⟩
  have g : BOk vars (L ++ X) (M ++ []) := by rw [← eX, List.append_nil]; exact lo.ok
  have c2 := c.up g
  rw [← eX, List.append_nil] at c2
  have := one_le_two_pow' (vars - mlv vars Ds k).toNat
  exact ⟨c2.set s, ⟨X, eX⟩, ⟨[], by simp⟩, s, by omega, by omega, fun y hy => by
    rw [hx] at hy
    exact (lfR_mem hy).imp id fun q => ⟨fun _ => false, by rw [q]; exact (leaf_val d hk ht h2 _).symm⟩⟩
theorem comb_node {L1 L2 : List Int} {M1 M2 : List Fk} {D1 D2 : K3r → Option Int} {p1 p2 : Int} {x : List Fk × Int} (sv : SameV vars Ds) (d : DsOk vars Ds) (hk : KOk Ds k) (ht : mlv vars Ds k < vars)
    (A : COk vars Ds F (lk_ vars Ds k False) L L1 M M1 D1 p1) (B : COk vars Ds F (lk_ vars Ds k True) L1 L2 M1 M2 D2 p2) (hx : x = ndR M2 (mlv vars Ds k) p1 p2) : COk vars Ds F k L L2 M x.1 (setF D2 k x.2) x.2 := by
  obtain ⟨X1, e1⟩ := A.ext
  obtain ⟨X2, e2⟩ := B.ext
  obtain ⟨Y1, f1⟩ := A.exn
  obtain ⟨Y2, f2⟩ := B.exn
  have l1 := lk_ok sv d hk ht False
  have l2 := lk_ok sv d hk ht True
  have mb := mlv_bd d hk
  have g2 : BOk vars (L1 ++ X2) (M1 ++ Y2) := by rw [← e2, ← f2]; exact B.inv.ok
  have s1 : Std vars Ds F L2 M2 (lk_ vars Ds k False) p1 := by rw [e2, f2]; exact A.std.up A.inv.ok.red g2.red
  have n := node_ok B.inv.ok mb.1 ht s1.rf B.std.rf (by have := s1.lv; omega) (by have := B.std.lv; omega)
  have nl := (ndR_len (N := M2) (v := mlv vars Ds k) (l := p1) (h := p2)).2
  rw [← hx] at n nl
  obtain ⟨Y3, f3⟩ := n.ext
  have s : Std vars Ds F L2 x.1 k x.2 := ⟨n.rf, n.lv, fun e => by
    rw [n.vl e]
    by_cases q : e (mlv vars Ds k) = true
    · rw [if_pos q, B.std.val e, lk_gF sv d hk ht (by simp [q])]
    · rw [if_neg q, s1.val e, lk_gF sv d hk ht (by simp [q])]⟩
  have m1 : 2 ^ (vars - mlv vars Ds (lk_ vars Ds k False)).toNat ≤ 2 ^ ((vars - mlv vars Ds k).toNat - 1) := Nat.pow_le_pow_right (by omega) (by have := (mlv_bd d l1.1); omega)
  have m2 : 2 ^ (vars - mlv vars Ds (lk_ vars Ds k True)).toNat ≤ 2 ^ ((vars - mlv vars Ds k).toNat - 1) := Nat.pow_le_pow_right (by omega) (by have := (mlv_bd d l2.1); omega)
  have m3 : 2 ^ (vars - mlv vars Ds k).toNat = 2 ^ ((vars - mlv vars Ds k).toNat - 1) + 2 ^ ((vars - mlv vars Ds k).toNat - 1) := by
    conv => lhs; rw [show (vars - mlv vars Ds k).toNat = ((vars - mlv vars Ds k).toNat - 1) + 1 by omega]
    rw [Nat.pow_succ]; omega
  refine ⟨?_, ⟨X1 ++ X2, by rw [e2, e1]; simp⟩, ⟨Y1 ++ Y2 ++ Y3, by rw [f3, f2, f1]; simp⟩, s, ?_, ?_, fun y hy => ?_⟩
  · have g3 : BOk vars (L2 ++ []) (M2 ++ Y3) := by rw [← f3, List.append_nil]; exact n.ok
    have := B.inv.up g3
    rw [← f3, List.append_nil] at this
    exact this.set s
  · have a := A.len
    have b := B.len
    omega
  · have a := A.lel
    have b := B.lel
    omega
  · rcases B.rch y hy with q | q
    · exact (A.rch y q).imp id fun q => lk_rch sv d hk ht q
    · exact .inr (lk_rch sv d hk ht q)
theorem tpN_step {i : Int} (h0 : 0 ≤ i) : tpN vars Ds k (i + 1).toNat = if lev vars (mG (dm Ds i)) (kg k i) < tpN vars Ds k i.toNat then lev vars (mG (dm Ds i)) (kg k i) else tpN vars Ds k i.toNat := by
  rw [show (i + 1).toNat = i.toNat + 1 by omega]
  show (if lev vars (mG (dm Ds (i.toNat : Int))) (kg k (i.toNat : Int)) < _ then lev vars (mG (dm Ds (i.toNat : Int))) (kg k (i.toNat : Int)) else _) = _
  rw [show ((i.toNat : Nat) : Int) = i by omega]
theorem lk_pow (sv : SameV vars Ds) (d : DsOk vars Ds) (hk : KOk Ds k) (ht : mlv vars Ds k < vars) (hi : Prop) : 2 ^ (vars - mlv vars Ds (lk_ vars Ds k hi)).toNat + 2 ^ (vars - mlv vars Ds (lk_ vars Ds k hi)).toNat ≤ 2 ^ (vars - mlv vars Ds k).toNat := by
  have l1 := lk_ok sv d hk ht hi
  have b := mlv_bd d l1.1
  have m1 : 2 ^ (vars - mlv vars Ds (lk_ vars Ds k hi)).toNat ≤ 2 ^ ((vars - mlv vars Ds k).toNat - 1) := Nat.pow_le_pow_right (by omega) (by omega)
  have m3 : 2 ^ (vars - mlv vars Ds k).toNat = 2 ^ ((vars - mlv vars Ds k).toNat - 1) + 2 ^ ((vars - mlv vars Ds k).toNat - 1) := by
    conv => lhs; rw [show (vars - mlv vars Ds k).toNat = ((vars - mlv vars Ds k).toNat - 1) + 1 by omega]
    rw [Nat.pow_succ]; omega
  omega
theorem comb_pow (d : DsOk vars Ds) (hk : KOk Ds k) : 2 ^ (vars - mlv vars Ds k).toNat ≤ 1099511627776 := by
  have mb := mlv_bd d hk
  have h1 := d.v1
  have : 2 ^ (vars - mlv vars Ds k).toNat ≤ 2 ^ 40 := Nat.pow_le_pow_right (by omega) (by omega)
  omega
end
end Go.Proofs.Ytkmhjcjpohpiaaa
