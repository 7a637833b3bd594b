/- Values of diagrams, tables by number. No program in sight. -/
import Derived.Test.YtkmhjcjpohpiaaaMtH
namespace Go.Proofs.Ytkmhjcjpohpiaaa
open Go Go.Vc
open Classical
/-- One step of the walk to a value. -/
structure VSt (A : Mg) (e : Int → Bool) (r q : Int) : Prop where
  ok : (mG A).ok q
  lt : q < r
  vl : gev (mG A) e q = gev (mG A) e r
theorem vr_bd {A : Mg} (h : Ok A) {r : Int} (hr : (mG A).ok r) (hl : ¬ r < A.L.length) : (0 ≤ (fk A.N (r - A.L.length)).v ∧ (fk A.N (r - A.L.length)).v < A.v) ∧ tp A r = (fk A.N (r - A.L.length)).v :=
  ⟨h.red.vr r hr hl, tp_n hl⟩
theorem vstep {A : Mg} (h : Ok A) {e : Int → Bool} {r : Int} (hr : (mG A).ok r) (hl : ¬ r < A.L.length) (b : Bool) (hb : e (fk A.N (r - A.L.length)).v = b) : VSt A e r (if b = true then (fk A.N (r - A.L.length)).h else (fk A.N (r - A.L.length)).l) := by
  have hr1 : r < A.L.length + A.N.length := hr.2
  have hbd := h.loc.bd (r - A.L.length) (by omega) (by omega)
  have hs := gev_step h.red (e := e) hr hl
  have en : (mG A).nd r = fk A.N (r - A.L.length) := rfl
  rw [en, hb] at hs
  refine ⟨?_, ?_, hs.symm⟩
  · by_cases q : b = true
    · rw [if_pos q]; exact ⟨hbd.2.1, by show _ < (A.L.length : Int) + A.N.length; omega⟩
    · rw [if_neg q]; exact ⟨hbd.1.1, by show _ < (A.L.length : Int) + A.N.length; omega⟩
  · by_cases q : b = true
    · rw [if_pos q]; omega
    · rw [if_neg q]; omega
theorem vst_h {A : Mg} {e : Int → Bool} {r : Int} (h : Ok A) (hr : (mG A).ok r) (hl : ¬ r < A.L.length) (hb : e (fk A.N (r - A.L.length)).v = true) : VSt A e r (fk A.N (r - A.L.length)).h := by
  have := vstep h hr hl true hb
  rwa [if_pos rfl] at this
theorem vst_l {A : Mg} {e : Int → Bool} {r : Int} (h : Ok A) (hr : (mG A).ok r) (hl : ¬ r < A.L.length) (hb : ¬ e (fk A.N (r - A.L.length)).v = true) : VSt A e r (fk A.N (r - A.L.length)).l := by
  have := vstep h hr hl false (by simpa using hb)
  rwa [if_neg (by simp)] at this
theorem vst_s {A : Mg} {e : Int → Bool} {r : Int} (h : Ok A) (hr : (mG A).ok r) (hl : ¬ r < A.L.length) : VSt A e r (stp A r (tp A r) (e (tp A r) = true)) := by
  have ht := (vr_bd h hr hl).2
  by_cases c : e (tp A r) = true
  · rw [stp_h rfl c]; exact vst_h h hr hl (by rw [← ht]; exact c)
  · rw [stp_l rfl c]; exact vst_l h hr hl (by rw [← ht]; exact c)
/- Eval and Table -/
abbrev eb (X : List Bool) : Int → Bool := fun i => gb X i
noncomputable def evE (A : Mg) (X : List Bool) : Int := if Ok A then if (X.length : Int) = A.v then 0 else 2 else 1
noncomputable def evV (A : Mg) (X : List Bool) : Int := if evE A X = 0 then vl A (eb X) else 0
theorem ev_1 {A : Mg} {X : List Bool} (h : ¬ Ok A) : evE A X = 1 ∧ evV A X = 0 := by
  have : evE A X = 1 := if_neg h
  exact ⟨this, if_neg (by omega)⟩
theorem ev_2 {A : Mg} {X : List Bool} (h : Ok A) (q : ¬ (X.length : Int) = A.v) : evE A X = 2 ∧ evV A X = 0 := by
  have : evE A X = 2 := by unfold evE; rw [if_pos h, if_neg q]
  exact ⟨this, if_neg (by omega)⟩
theorem ev_0 {A : Mg} {X : List Bool} (h : Ok A) (q : (X.length : Int) = A.v) : evE A X = 0 ∧ evV A X = vl A (eb X) := by
  have : evE A X = 0 := by unfold evE; rw [if_pos h, if_pos q]
  exact ⟨this, if_pos this⟩
noncomputable def tbE (A : Mg) : Int := if Ok A then if 12 < A.v then 4 else 0 else 1
noncomputable def tbL (A : Mg) : List Int := if tbE A = 0 then vT A else []
theorem tb_1 {A : Mg} (h : ¬ Ok A) : tbE A = 1 ∧ tbL A = [] := by
  have : tbE A = 1 := if_neg h
  exact ⟨this, if_neg (by omega)⟩
theorem tb_4 {A : Mg} (h : Ok A) (q : 12 < A.v) : tbE A = 4 ∧ tbL A = [] := by
  have : tbE A = 4 := by unfold tbE; rw [if_pos h, if_pos q]
  exact ⟨this, if_neg (by omega)⟩
theorem tb_0 {A : Mg} (h : Ok A) (q : ¬ 12 < A.v) : tbE A = 0 ∧ tbL A = vT A := by
  have : tbE A = 0 := by unfold tbE; rw [if_pos h, if_neg q]
  exact ⟨this, if_pos this⟩
/-- The first entries of a table. -/
noncomputable def tkN (vars : Int) (g : (Int → Bool) → Int) (n : Nat) : List Int := (tbl vars g).take n
theorem tkN_0 {vars : Int} {g : (Int → Bool) → Int} : tkN vars g 0 = [] := rfl
theorem tkN_len {vars : Int} {g : (Int → Bool) → Int} {k : Int} (h0 : 0 ≤ k) (h : k ≤ 2 ^ vars.toNat) : ((tkN vars g k.toNat).length : Int) = k := by
  have := tbl_lenI vars g
  unfold tkN; rw [List.length_take]; omega
theorem tkN_step {vars k : Int} {g : (Int → Bool) → Int} (h0 : 0 ≤ k) (h1 : k < 2 ^ vars.toNat) : tkN vars g k.toNat ++ [g (asg vars k)] = tkN vars g (k + 1).toNat := by
  unfold tkN
  rw [show (k + 1).toNat = k.toNat + 1 by omega, List.take_add_one, tbl_at h0 h1]; rfl
theorem tkN_all {vars k : Int} {g : (Int → Bool) → Int} (h0 : 0 ≤ vars) (h : 2 ^ vars.toNat ≤ k) : tkN vars g k.toNat = tabv vars g := by
  have := tbl_lenI vars g
  rw [tab_tbl h0]
  exact List.take_of_length_le (by omega)
theorem asL_of {vars k : Int} {Y : List Bool} (hl : Y.length = vars.toNat) (h : ∀ x : Int, 0 ≤ x → x < vars → gb Y x = asg vars k x) : Y = asL vars k :=
  ext_gb (by rw [asL_len]; exact hl) fun x a b => by rw [h x a (by omega), asL_gb a (by omega)]
theorem vl_asL {A : Mg} (h : Ok A) (k : Int) : vl A (eb (asL A.v k)) = vl A (asg A.v k) := dep_asL h.dep
/-- One entry of an assignment. -/
theorem as_step {vars k j : Int} {Y : List Bool} (hl : (Y.length : Int) = vars) (h0 : 0 ≤ j) (h1 : j < vars) (h : ∀ x : Int, 0 ≤ x → x < j → gb Y x = asg vars k x) : ∀ x : Int, 0 ≤ x → x < j + 1 → gb (Y.set j.toNat (decide (k / 2 ^ (vars - 1 - j).toNat % 2 = 1))) x = asg vars k x := fun x a b => by
  rw [gb_set h0 (by omega) a]
  by_cases e : x = j
  · rw [if_pos e, e, asg_in h0 h1]
  · rw [if_neg e]; exact h x a (by omega)
end Go.Proofs.Ytkmhjcjpohpiaaa
