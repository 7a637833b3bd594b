/- What the law on counts compares. No program in sight. -/
import Derived.Test.YtgehdgeiikjohaaBdE
namespace Go.Proofs.Ytgehdgeiikjohaa
open Go Go.Vc
open Classical
def vlL (A : Dg) (k : Int) : List Int := (A.N.take k.toNat).map Fk.v
theorem vlL_step {A : Dg} {k : Int} (h0 : 0 ≤ k) (h1 : k < A.N.length) : vlL A (k + 1) = vlL A k ++ [(fk A.N k).v] := by
  unfold vlL
  rw [show (k + 1).toNat = k.toNat + 1 by omega, List.take_add_one, List.map_append]
  congr 1
  rw [List.getElem?_eq_getElem (by omega)]
  show [Fk.v A.N[k.toNat]] = _
  unfold fk
  rw [List.getD_eq_getElem?_getD, List.getElem?_eq_getElem (by omega)]; rfl
theorem vlL_all {A : Dg} {k : Int} (h : A.N.length ≤ k) : vlL A k = A.N.map Fk.v := by
  unfold vlL
  rw [List.take_of_length_le (by omega)]
theorem vlL_len {A : Dg} {k : Int} : (vlL A k).length ≤ A.N.length := by
  unfold vlL
  rw [List.length_map, List.length_take]; omega
noncomputable def suT (A : Dg) : List Int := if vE [A] = 0 then suL A else []
theorem su_0 {A : Dg} (h : vE [A] = 0) : suT A = suL A := if_pos h
theorem su_n {A : Dg} (h : vE [A] ≠ 0) : suT A = [] := if_neg h
/-- The number of true entries before k. -/
def trN (A : Dg) (k : Int) : Int := trues ((tbl A.v (gA A)).take k.toNat)
theorem trN_0 (A : Dg) : trN A 0 = 0 := rfl
theorem trN_step {A : Dg} {k : Int} (h0 : 0 ≤ k) (h1 : k < (tbl A.v (gA A)).length) : trN A (k + 1) = trN A k + (if gb (tbl A.v (gA A)) k = true then 1 else 0) := by
  unfold trN
  rw [show (k + 1).toNat = k.toNat + 1 by omega, List.take_add_one, trues_append, List.getElem?_eq_getElem (by omega)]
  show _ + ((if (tbl A.v (gA A))[k.toNat] then 1 else 0) + 0) = _
  have : gb (tbl A.v (gA A)) k = (tbl A.v (gA A))[k.toNat] := by
    unfold gb
    rw [List.getD_eq_getElem?_getD, List.getElem?_eq_getElem (by omega)]; rfl
  rw [this]; simp
theorem trN_bd {A : Dg} {k : Int} : 0 ≤ trN A k ∧ trN A k ≤ (tbl A.v (gA A)).length := by
  have := trues_bd ((tbl A.v (gA A)).take k.toNat)
  rw [List.length_take] at this
  unfold trN; omega
theorem trN_all {A : Dg} {k : Int} (hok : dOk A) (h : (2 : Int) ^ A.v.toNat ≤ k) : trN A k = cnN A := by
  rw [cnN_tbl hok]
  unfold trN
  have := tbl_lenI A.v (gA A)
  rw [List.take_of_length_le (by omega)]
/-- The first true entry before k. -/
noncomputable def lsN (A : Dg) (k : Int) : Int := firstI (fun i => gb (tbl A.v (gA A)) i = true) k.toNat
theorem firstI_succ {p : Int → Prop} (n : Nat) : (0 ≤ firstI p n → firstI p (n + 1) = firstI p n) ∧ (¬ 0 ≤ firstI p n → p n → firstI p (n + 1) = n) ∧ (¬ 0 ≤ firstI p n → ¬ p n → firstI p (n + 1) = -1) := by
  refine ⟨fun h => ?_, fun h q => ?_, fun h q => ?_⟩
  · rw [firstI, if_pos h]
  · rw [firstI, if_neg h, if_pos q]
  · rw [firstI, if_neg h, if_neg q]
theorem ls_step {A : Dg} {k : Int} (h0 : 0 ≤ k) : lsN A (k + 1) = if 0 ≤ lsN A k then lsN A k else if gb (tbl A.v (gA A)) k = true then k else -1 := by
  have s := firstI_succ (p := fun i => gb (tbl A.v (gA A)) i = true) k.toNat
  have ek : ((k.toNat : Nat) : Int) = k := by omega
  unfold lsN
  rw [show (k + 1).toNat = k.toNat + 1 by omega]
  by_cases c : 0 ≤ firstI (fun i => gb (tbl A.v (gA A)) i = true) k.toNat
  · rw [if_pos c]; exact s.1 c
  · rw [if_neg c]
    by_cases q : gb (tbl A.v (gA A)) k = true
    · rw [if_pos q, s.2.1 c (by rw [ek]; exact q)]; exact ek
    · rw [if_neg q]; exact s.2.2 c (by rw [ek]; exact q)
theorem ls_neg {A : Dg} {k : Int} (h : ¬ 0 ≤ lsN A k) : lsN A k = -1 ∧ ∀ i : Int, 0 ≤ i → i < k → ¬ gb (tbl A.v (gA A)) i = true := by
  have hn : ∀ i : Int, 0 ≤ i → i < k.toNat → ¬ gb (tbl A.v (gA A)) i = true := fun i i0 i1 q => h ((firstI_nonneg (p := fun i => gb (tbl A.v (gA A)) i = true) k.toNat).2 ⟨i, i0, i1, q⟩)
  exact ⟨firstI_none k.toNat hn, fun i i0 i1 => hn i i0 (by omega)⟩
theorem ls_pos : ∀ (A : Dg) (n : Nat), 0 ≤ lsN A n → lsN A n < n ∧ gb (tbl A.v (gA A)) (lsN A n) = true ∧ ∀ i : Int, 0 ≤ i → i < lsN A n → ¬ gb (tbl A.v (gA A)) i = true
  | A, 0, h => by have : lsN A ((0 : Nat) : Int) = -1 := rfl; omega
  | A, n + 1, h => by
    have e := ls_step (A := A) (k := n) (by omega)
    rw [show ((n + 1 : Nat) : Int) = (n : Int) + 1 by omega] at *
    by_cases c : 0 ≤ lsN A n
    · rw [if_pos c] at e
      rw [e]
      obtain ⟨a, b, d⟩ := ls_pos A n c
      exact ⟨by omega, b, d⟩
    · rw [if_neg c] at e
      by_cases q : gb (tbl A.v (gA A)) (n : Int) = true
      · rw [if_pos q] at e
        rw [e]
        exact ⟨by omega, q, (ls_neg c).2⟩
      · rw [if_neg q] at e; omega
/-- No entry is true: the root is the constant false. -/
theorem ls_none {A : Dg} {k : Int} (hok : dOk A) (hk : (2 : Int) ^ A.v.toNat ≤ k) (h : lsN A k < 0) : A.r = 0 := by
  obtain ⟨_, hn⟩ := ls_neg (A := A) (k := k) (by omega)
  have hf : gA A = fun _ => false := dep_tbl hok.1.1 (gA_dep hok) (fun _ _ _ => rfl) (ext_gb (by rw [tbl_len, tbl_len]) fun i i0 i1 => by
    rw [tbl_lenI] at i1
    rw [tbl_get (g := fun _ => false) i0 i1]
    exact Bool.eq_false_iff.2 (hn i i0 (by omega)))
  have e := ok_fD hok
  rw [fD_zero hok.1.1 hok.1.2 fun e => by rw [hf]] at e
  rw [← e]
theorem ls_some {A : Dg} {k : Int} (hok : dOk A) (k0 : 0 ≤ k) (hk : k ≤ 2 ^ A.v.toNat) (h : 0 ≤ lsN A k) : A.r ≠ 0 ∧ lsN A k < 2 ^ A.v.toNat ∧ asL A.v (lsN A k) = fpL A := by
  have hh := ls_pos A k.toNat (by rw [Int.toNat_of_nonneg k0]; exact h)
  rw [Int.toNat_of_nonneg k0] at hh
  obtain ⟨a, b, c⟩ := hh
  rw [tbl_get h (by omega)] at b
  refine ⟨fun e => ?_, by omega, fp_first hok h (by omega) b fun j j0 j1 => ?_⟩
  · have : gA A (asg A.v (lsN A k)) = false := by
      show vl A.N _ A.r = false
      rw [e]; exact vl_const (by omega)
    rw [this] at b; cases b
  · have := c j j0 j1
    rw [tbl_get j0 (by omega)] at this
    exact this
/-- The entry of an assignment. -/
theorem ev_tbl {A : Dg} {L : List Bool} (hok : dOk A) (hl : (L.length : Int) = A.v) : gA A (fun i => gb L i) = gb (tbl A.v (gA A)) (nm_ L L.length) ∧ nm_ L L.length < 2 ^ A.v.toNat := by
  have hb := nm_bd L L.length
  have hn : L.length = A.v.toNat := by omega
  have h1 : nm_ L L.length < 2 ^ A.v.toNat := by
    have := hb.2
    rw [← hn]; exact this
  refine ⟨?_, h1⟩
  rw [tbl_get hb.1 h1, asg_nm hl]
  refine gA_dep hok _ _ fun i i0 i1 => ?_
  cases h : gb L i
  · exact (decide_eq_false (by simp)).symm
  · exact (decide_eq_true ⟨i0, i1, rfl⟩).symm
end Go.Proofs.Ytgehdgeiikjohaa
