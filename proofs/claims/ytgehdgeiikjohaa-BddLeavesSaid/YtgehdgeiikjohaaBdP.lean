/- The restriction of a diagram: what its recursive walk keeps. No program in sight. -/
import Derived.Test.YtgehdgeiikjohaaBdZ
namespace Go.Proofs.Ytgehdgeiikjohaa
open Go Go.Vc
open Classical
/-- What a reference stands for, with the variable i set to b. -/
structure Rs (vars : Int) (N : List Fk) (i : Int) (b : Bool) (M : List Fk) (r p : Int) : Prop where
  rf : Rf M p
  lv : lev vars N r ≤ lev vars M p
  val : ∀ e, vl M e p = vl N (up e i b) r
structure RInv (vars : Int) (N : List Fk) (i : Int) (b : Bool) (M : List Fk) (Dn : Int → Option Int) : Prop where
  fm : Fm vars M
  z : Dn 0 = some 0
  o : Dn 1 = some 1
  dn : ∀ r p, Dn r = some p → Rf N r → Rs vars N i b M r p
structure ROk (vars : Int) (N : List Fk) (i : Int) (b : Bool) (r : Int) (M M' : List Fk) (Dn' : Int → Option Int) (p : Int) : Prop where
  inv : RInv vars N i b M' Dn'
  ext : ∃ X, M' = M ++ X
  std : Rs vars N i b M' r p
  len : M'.length + 1 ≤ M.length + 2 ^ (vars - lev vars N r).toNat
section
variable {vars : Int} {N : List Fk} {i : Int} {b : Bool} {M : List Fk} {Dn : Int → Option Int} {r : Int}
theorem Rs.up {X : List Fk} {p : Int} (s : Rs vars N i b M r p) (f : Fm vars M) (g : Fm vars (M ++ X)) : Rs vars N i b (M ++ X) r p where
  rf := ⟨s.rf.1, by have := s.rf.2; rw [List.length_append]; omega⟩
  lv := by rw [lev_append s.rf.2]; exact s.lv
  val := fun e => by rw [vl_append f g e p.toNat p s.rf (by omega)]; exact s.val e
theorem RInv.up {X : List Fk} (c : RInv vars N i b M Dn) (g : Fm vars (M ++ X)) : RInv vars N i b (M ++ X) Dn := ⟨g, c.z, c.o, fun r p h hk => (c.dn r p h hk).up c.fm g⟩
theorem RInv.set {p : Int} (c : RInv vars N i b M Dn) (h2 : 2 ≤ r) (s : Rs vars N i b M r p) : RInv vars N i b M (setF Dn r p) := ⟨c.fm, by rw [setF_other (by omega)]; exact c.z, by rw [setF_other (by omega)]; exact c.o, fun q t h hk => by
  by_cases e : q = r
  · subst e; rw [setF_same] at h; cases h; exact s
  · rw [setF_other e] at h; exact c.dn q t h hk⟩
theorem rinv0 : RInv vars N i b [] pl0 := ⟨fm_nil, pl0_z, pl0_o, fun r p h _ => by
  obtain ⟨rfl, h⟩ := pl0_some h
  exact ⟨⟨by omega, by show p < 2 + ((0 : Nat) : Int); omega⟩, by rw [lev_const (by omega), lev_const (by omega)]; exact Int.le_refl _, fun e => by rw [vl_const (by omega), vl_const (by omega)]⟩⟩
theorem RInv.ge2 (c : RInv vars N i b M Dn) (hr : Rf N r) (h : Dn r = none) : 2 ≤ r := by
  have h0 := hr.1
  refine Classical.byContradiction fun q => ?_
  by_cases e : r = 0
  · subst e; rw [c.z] at h; cases h
  · have : r = 1 := by omega
    subst this; rw [c.o] at h; cases h
theorem res_hit {p : Int} (c : RInv vars N i b M Dn) (hk : Rf N r) (h : Dn r = some p) : ROk vars N i b r M M Dn p :=
  ⟨c, ⟨[], by simp⟩, c.dn r p h hk, by have := one_le_two_pow' (vars - lev vars N r).toNat; omega⟩
theorem up_same {e : Int → Bool} {v : Int} : up e v b v = b := if_pos rfl
theorem up_other {e : Int → Bool} {v w : Int} (h : w ≠ v) : up e v b w = e w := if_neg h
theorem pow_lt {a c : Int} (h : a < c) (h2 : c ≤ vars) : 2 ^ (vars - c).toNat + 2 ^ (vars - c).toNat ≤ 2 ^ (vars - a).toNat := by
  have m1 : 2 ^ (vars - c).toNat ≤ 2 ^ ((vars - a).toNat - 1) := Nat.pow_le_pow_right (by omega) (by omega)
  have m3 : 2 ^ (vars - a).toNat = 2 ^ ((vars - a).toNat - 1) + 2 ^ ((vars - a).toNat - 1) := by
    conv => lhs; rw [show (vars - a).toNat = ((vars - a).toNat - 1) + 1 by omega]
    rw [Nat.pow_succ]; omega
  omega
/-- A node of the variable that is set. -/
theorem res_one {M1 : List Fk} {D1 : Int → Option Int} {p1 c : Int} (f : Fm vars N) (h2 : 2 ≤ r) (hr : Rf N r) (hv : (fk N (r - 2)).v = i) (hc : c = if b then (fk N (r - 2)).h else (fk N (r - 2)).l)
    (A : ROk vars N i b c M M1 D1 p1) : ROk vars N i b r M M1 (setF D1 r p1) p1 := by
  have lo := f.lo r h2 hr.2
  have hi := f.hi r h2 hr.2
  have hl : lev vars N r = (nd N r).v := lev_node (by omega)
  have h3 := hr.2
  rw [← nd_fk] at hv hc
  have hcl : (nd N r).v < lev vars N c := by rw [hc]; split; exact hi.2.2; exact lo.2.2
  have hcr : Rf N c := by rw [hc]; unfold Rf; split <;> omega
  have s : Rs vars N i b M1 r p1 := ⟨A.std.rf, by have := A.std.lv; omega, fun e => by
    rw [A.std.val e, vl_step f h2 hr.2, hv, up_same, ← hc]⟩
  refine ⟨A.inv.set h2 s, A.ext, s, ?_⟩
  have := A.len
  have q := pow_lt (vars := vars) (a := lev vars N r) (c := lev vars N c) (by omega) (f.lev_le hcr)
  have pw := one_le_two_pow' (vars - lev vars N c).toNat
  omega
/-- Another node. -/
theorem res_node {M1 M2 : List Fk} {D1 D2 : Int → Option Int} {p1 p2 : Int} {x : List Fk × Int} (f : Fm vars N) (h2 : 2 ≤ r) (hr : Rf N r) (hv : (fk N (r - 2)).v ≠ i)
    (A : ROk vars N i b (fk N (r - 2)).l M M1 D1 p1) (B : ROk vars N i b (fk N (r - 2)).h M1 M2 D2 p2) (hx : x = nodeR M2 (fk N (r - 2)).v p1 p2) : ROk vars N i b r M x.1 (setF D2 r x.2) x.2 := by
  have lo := f.lo r h2 hr.2
  have hi := f.hi r h2 hr.2
  have vr := f.vr r h2 hr.2
  have hl : lev vars N r = (nd N r).v := lev_node (by omega)
  have h3 := hr.2
  rw [← nd_fk] at hv hx A B
  have rl : Rf N (nd N r).l := ⟨lo.1, by omega⟩
  have rh : Rf N (nd N r).h := ⟨hi.1, by omega⟩
  obtain ⟨X1, e1⟩ := A.ext
  obtain ⟨X2, e2⟩ := B.ext
  have g2 : Fm vars (M1 ++ X2) := e2 ▸ B.inv.fm
  have s1 : Rs vars N i b M2 (nd N r).l p1 := by rw [e2]; exact A.std.up A.inv.fm g2
  have n := node_ok B.inv.fm vr.1 vr.2 s1.rf B.std.rf (by have := s1.lv; omega) (by have := B.std.lv; omega)
  rw [← hx] at n
  obtain ⟨X3, e3, l3⟩ := n.ext
  have g3 : Fm vars (M2 ++ X3) := e3 ▸ n.fm
  have s : Rs vars N i b x.1 r x.2 := ⟨n.rf, by rw [hl]; exact n.lv, fun e => by
    rw [n.vl e, vl_step f h2 hr.2, up_other hv]
    by_cases q : e (nd N r).v = true
    · rw [if_pos q, if_pos q, B.std.val e]
    · rw [if_neg q, if_neg q, s1.val e]⟩
  refine ⟨?_, ⟨X1 ++ X2 ++ X3, by rw [e3, e2, e1]; simp⟩, s, ?_⟩
  · have := B.inv.up g3
    rw [← e3] at this
    exact this.set h2 s
  · have a := A.len
    have c := B.len
    have w : x.1.length ≤ M2.length + 1 := by rw [e3, List.length_append]; omega
    have q1 := pow_lt (vars := vars) (a := lev vars N r) (c := lev vars N (nd N r).l) (by omega) (f.lev_le rl)
    have q2 := pow_lt (vars := vars) (a := lev vars N r) (c := lev vars N (nd N r).h) (by omega) (f.lev_le rh)
    have pw1 := one_le_two_pow' (vars - lev vars N (nd N r).l).toNat
    have pw2 := one_le_two_pow' (vars - lev vars N (nd N r).h).toNat
    omega
end
/-- The restriction of a diagram. -/
def rsF (vars : Int) (N : List Fk) (root i : Int) (b : Bool) : List Fk × Int := cF vars (fun e => vl N (up e i b) root)
theorem rs_lay {vars root i p : Int} {b : Bool} {N M : List Fk} (f : Fm vars M) (s : Rs vars N i b M root p) (hv : 0 ≤ vars) : layF M p = rsF vars N root i b := by
  rw [lay_cF f s.rf hv]
  unfold rsF
  rw [show (fun e => vl M e p) = fun e => vl N (up e i b) root from funext s.val]
def rsD (A : Dg) (i : Int) (b : Bool) : Dg := ⟨A.v, (rsF A.v A.N A.r i b).1, (rsF A.v A.N A.r i b).2⟩
theorem rst_pow {vars r : Int} {N : List Fk} (f : Fm vars N) (hr : Rf N r) (h0 : 0 ≤ vars) (h1 : vars ≤ 40) : 2 ^ (vars - lev vars N r).toNat ≤ 1099511627776 := by
  have := f.lev_nn h0 hr
  have : 2 ^ (vars - lev vars N r).toNat ≤ 2 ^ 40 := Nat.pow_le_pow_right (by omega) (by omega)
  omega
theorem ROk.small {vars i r p : Int} {b : Bool} {N M M' : List Fk} {Dn' : Int → Option Int} (c : ROk vars N i b r M M' Dn' p) (f : Fm vars N) (hr : Rf N r) (h0 : 0 ≤ vars) (h1 : vars ≤ 40) : M'.length + 1 ≤ M.length + 1099511627776 := by
  have := c.len
  have := rst_pow f hr h0 h1
  omega
end Go.Proofs.Ytgehdgeiikjohaa
