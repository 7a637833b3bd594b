/- The canonical diagram of a function; the roots of a list of diagrams. No program in sight. -/
import Derived.Test.YtgehdgeiikjohaaBdX
namespace Go.Proofs.Ytgehdgeiikjohaa
open Go Go.Vc
open Classical
/-- The diagram of a function of assignments. -/
def cF (vars : Int) (g : (Int → Bool) → Bool) : List Fk × Int := prt vars.toNat [] 0 (tab g vars.toNat 0 (fun _ => false))
theorem lay_cF {vars p : Int} {M : List Fk} (f : Fm vars M) (h : Rf M p) (hv : 0 ≤ vars) : layF M p = cF vars (fun e => vl M e p) := by
  have := canon f vars.toNat 0 p ([], pl0) (fun _ => false) (p.toNat + 1) (lyI0 M) h (by omega) (f.lev_nn hv h) (by have := h.1; omega)
  exact this.symm
theorem cF_len (vars : Int) (g : (Int → Bool) → Bool) : (cF vars g).1.length + 1 ≤ 2 ^ vars.toNat := by
  have := (prt_len vars.toNat [] 0 (tab g vars.toNat 0 (fun _ => false))).2
  have e : ([] : List Fk).length = 0 := rfl
  unfold cF; omega
abbrev rt (Ds : List Dg) : K3r := ((dg Ds 0).r, (dg Ds 1).r, (dg Ds 2).r)
def rn (Ds : List Dg) (n j : Nat) : Int := if j < n then (dg Ds j).r else 0
def rnL (Ds : List Dg) (n : Nat) : K3r := (rn Ds n 0, rn Ds n 1, rn Ds n 2)
theorem rn_0 {Ds : List Dg} {j : Nat} : rn Ds 0 j = 0 := if_neg (by omega)
theorem rn_same {Ds : List Dg} {n j : Nat} (h : j ≠ n) : rn Ds (n + 1) j = rn Ds n j := by
  unfold rn
  by_cases q : j < n
  · rw [if_pos q, if_pos (by omega)]
  · rw [if_neg q, if_neg (by omega)]
theorem rn_new {Ds : List Dg} {n : Nat} : rn Ds (n + 1) n = (dg Ds n).r := if_pos (by omega)
theorem rnL_step {Ds : List Dg} {i : Int} (h0 : 0 ≤ i) (h1 : i < 3) : (lwV (rnL Ds i.toNat)).set (0 + i.toNat) (.int .i64 (dg Ds i).r) = lwV (rnL Ds (i + 1).toNat) := by
  have hi' : i = 0 ∨ i = 1 ∨ i = 2 := by omega
  rcases hi' with rfl | rfl | rfl
  · show [_, _, _] = lwV (rn Ds (0 + 1) 0, rn Ds (0 + 1) 1, rn Ds (0 + 1) 2)
    rw [rn_new, rn_same (j := 1) (by omega), rn_same (j := 2) (by omega)]; rfl
  · show [_, _, _] = lwV (rn Ds (1 + 1) 0, rn Ds (1 + 1) 1, rn Ds (1 + 1) 2)
    rw [rn_new, rn_same (j := 0) (by omega), rn_same (j := 2) (by omega)]; rfl
  · show [_, _, _] = lwV (rn Ds (2 + 1) 0, rn Ds (2 + 1) 1, rn Ds (2 + 1) 2)
    rw [rn_new, rn_same (j := 0) (by omega), rn_same (j := 1) (by omega)]; rfl
theorem rnL_all {Ds : List Dg} {n : Nat} (h : Ds.length ≤ n) : rnL Ds n = rt Ds := by
  have key : ∀ j : Nat, rn Ds n j = (dg Ds j).r := fun j => by
    unfold rn
    by_cases q : j < n
    · rw [if_pos q]
    · rw [if_neg q, dg_out (by omega) (by omega)]
  unfold rnL
  rw [key 0, key 1, key 2]; rfl
/-- All roots are references. -/
def Rts (Ds : List Dg) : Prop := ∀ i : Int, 0 ≤ i → i < Ds.length → Rf (dg Ds i).N (dg Ds i).r
theorem kg_rt {Ds : List Dg} {i : Int} (h0 : 0 ≤ i) (h1 : i < 3) : kg (rt Ds) i = (dg Ds i).r := by
  have : i = 0 ∨ i = 1 ∨ i = 2 := by omega
  rcases this with rfl | rfl | rfl <;> rfl
theorem rt_ok {Ds : List Dg} (h : Rts Ds) : KOk Ds (rt Ds) := fun i h0 h1 => by
  rw [kg_rt h0 h1]
  by_cases q : i < Ds.length
  · exact ⟨h i h0 q, fun z => by omega⟩
  · rw [dg_out h0 (by omega)]
    exact ⟨⟨Int.le_refl _, by show (0 : Int) < 2 + ((0 : Nat) : Int); omega⟩, fun _ => rfl⟩
theorem comb_pow {vars : Int} {Ds : List Dg} {k : K3r} (d : DsOk vars Ds) (hk : KOk Ds k) : 2 ^ (vars - mlv vars Ds k).toNat ≤ 1099511627776 := by
  have mb := mlv_bd d hk
  have h1 := d.v1
  have : 2 ^ (vars - mlv vars Ds k).toNat ≤ 2 ^ 40 := Nat.pow_le_pow_right (by omega) (by omega)
  omega
/-- The combination of the diagrams of a list. -/
def cmb (vars : Int) (Ds : List Dg) (F : Bool → Bool → Bool → Bool) : List Fk × Int := cF vars (gF Ds F (rt Ds))
theorem cmb_lay {vars p : Int} {Ds : List Dg} {F : Bool → Bool → Bool → Bool} {M : List Fk} (f : Fm vars M) (s : Std vars Ds F M (rt Ds) p) (hv : 0 ≤ vars) : layF M p = cmb vars Ds F := by
  rw [lay_cF f s.rf hv]
  unfold cmb
  rw [show (fun e => vl M e p) = gF Ds F (rt Ds) from funext s.val]
end Go.Proofs.Ytgehdgeiikjohaa
