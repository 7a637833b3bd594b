/- What the searches of the model return. No program in sight. -/
import Derived.Test.YtkmhjcjpohpiaaaMtG
import Derived.Test.YtkmhjcjpohpiaaaVcJ
namespace Go.Proofs.Ytkmhjcjpohpiaaa
open Go Go.Vc
open Classical
theorem firstI_ex {p : Int → Prop} : ∀ n : Nat, (0 ≤ firstI p n ↔ ∃ i : Int, 0 ≤ i ∧ i < n ∧ p i)
  | 0 => ⟨fun h => by have h : (0 : Int) ≤ -1 := h; omega, fun ⟨i, a, b, _⟩ => by omega⟩
  | n + 1 => by
    have ih := firstI_ex (p := p) n
    unfold firstI
    by_cases h : 0 ≤ firstI p n
    · rw [if_pos h]
      obtain ⟨i, a, b, c⟩ := ih.1 h
      exact ⟨fun _ => ⟨i, a, by omega, c⟩, fun _ => h⟩
    · rw [if_neg h]
      by_cases q : p n
      · rw [if_pos q]; exact ⟨fun _ => ⟨(n : Int), by omega, by omega, q⟩, fun _ => by omega⟩
      · rw [if_neg q]
        refine ⟨fun z => by omega, fun ⟨i, a, b, c⟩ => ?_⟩
        by_cases e : i = n
        · subst e; exact absurd c q
        · exact absurd (ih.2 ⟨i, a, by omega, c⟩) h
theorem fks_take : ∀ (N : List Fk) (j : Nat), (fks N).take (j * 3) = fks (N.take j)
  | [], j => by simp [fks]
  | a :: l, 0 => by simp [fks]
  | a :: l, j + 1 => by
    show ((fkc a) ++ fks l).take ((j + 1) * 3) = fkc a ++ fks (l.take j)
    rw [← fks_take l j, List.take_append]
    have : (fkc a).length = 3 := rfl
    rw [List.take_of_length_le (by omega), this, show (j + 1) * 3 - 3 = j * 3 by omega]
theorem Fks.takeI {H : HV} {v : Value} {N : List Fk} (h : Fks H v N) {j : Nat} (hj : j ≤ N.length) : Fks H (takeS v j) (N.take j) := by
  have := SlS.take (s := 3) h hj
  rw [fks_take] at this
  show SlS 3 H (takeS v j) (N.take j).length (fks (N.take j))
  rwa [List.length_take, Nat.min_eq_left hj]
theorem bvs_set {M : List Bool} {n : Nat} {z : Bool} : (bvs M).set n (.bool z) = bvs (M.set n z) := by
  unfold bvs; rw [List.map_set]
theorem bvs_rep {n : Nat} : List.replicate n (Value.bool false) = bvs (List.replicate n false) := by
  unfold bvs; rw [List.map_replicate]
theorem seen_iff {A : Mg} {j : Int} {n : Fk} (h0 : 0 ≤ j) (h1 : j < A.N.length) : (∃ i : Int, 0 ≤ i ∧ i < (A.N.take j.toNat).length ∧ fk (A.N.take j.toNat) i = n) ↔ ∃ k : Int, 0 ≤ k ∧ k < j ∧ fk A.N k = n := by
  have e : ∀ i : Int, 0 ≤ i → i < j → fk (A.N.take j.toNat) i = fk A.N i := fun i a b => by
    unfold fk
    rw [List.getD_eq_getElem?_getD, List.getD_eq_getElem?_getD, List.getElem?_take, if_pos (by omega)]
  have hl : (A.N.take j.toNat).length = j.toNat := by rw [List.length_take]; omega
  rw [hl]
  constructor
  · rintro ⟨i, a, b, c⟩; exact ⟨i, a, by omega, by rw [← e i a (by omega)]; exact c⟩
  · rintro ⟨i, a, b, c⟩; exact ⟨i, a, by omega, by rw [e i a b]; exact c⟩
theorem vis_miss {K : Int} {G : Gph} {k : Nat} {r : Int} {s : Ly} {x y : Ly × Int} (hs : s.2 r = none) (hx : x = vis K G k (G.nd r).l s) (hy : y = vis K G k (G.nd r).h x.1) :
    vis K G (k + 1) r s = ((y.1.1 ++ [⟨(G.nd r).v, x.2, y.2⟩], setF y.1.2 r (K + (y.1.1.length : Int))), K + (y.1.1.length : Int)) := by
  subst hx; subst hy
  rw [vis_node hs]
theorem fi_len {A : Mg} {done : List Int} {M : List Bool} {s : Ly} (hI : LyI A.L.length (mI A) s) (F : FiS A done M s) : done.length ≤ A.N.length := by
  have hg : ∀ i : Nat, ∀ h : i < done.length, gi done (i : Int) = done[i] := fun i h => by
    unfold gi; rw [List.getD_eq_getElem?_getD, Int.toNat_natCast, List.getElem?_eq_getElem h]; rfl
  refine nodup_len A.N.length ?_ fun z hz => ?_
  · rw [List.Nodup, List.pairwise_iff_getElem]
    intro i j hi hj hij e
    have a := F.at_ (i : Int) (by omega) (by omega)
    have b := F.at_ (j : Int) (by omega) (by omega)
    rw [hg i hi] at a
    rw [hg j hj, ← e, a] at b
    have := Option.some.inj b
    omega
  · obtain ⟨i, hi, rfl⟩ := pos_of_getD hz
    have a := F.at_ (i : Int) (by omega) (by omega)
    obtain ⟨q1, q2, q3⟩ := hI.rf _ _ a
    have q4 : ¬ gi done i + A.L.length < (A.L.length : Int) := q3.2 (by omega)
    have q5 : gi done i + A.L.length < A.L.length + A.N.length := q1.2
    omega
theorem nv_lt {A : Mg} (h : Loc A) {j : Int} (h0 : 0 ≤ j) (h1 : j < A.N.length) : (fk A.N j).v < A.v := by
  have := ((Loc.red h.nd).vr (A.L.length + j) ⟨by omega, by show (A.L.length : Int) + j < A.L.length + A.N.length; omega⟩ (by show ¬ (A.L.length : Int) + j < A.L.length; omega)).2
  have e : (mG A).nd (A.L.length + j) = fk A.N j := by show fk A.N ((A.L.length : Int) + j - A.L.length) = _; rw [show (A.L.length : Int) + j - A.L.length = j by omega]
  rwa [e] at this
/-- At most 300 leaves and nodes, as the law counts them. -/
def fewP (A : Mg) : Prop := IntKind.i64.wrap ((A.L.length : Int) + (A.N.length : Int)) ≤ 300
/-- The ascending order, as the library tests it. -/
def srtB (L : List Int) : Prop := ∀ i : Int, 0 < i → i < L.length → gi L (i - 1) ≤ gi L i
section
variable {A : Mg} {d : List Int} {M : List Bool}
theorem chk_yes (h1 : 0 ≤ A.v ∧ A.v ≤ 40) (h2 : A.L.length ≤ 4096 ∧ A.N.length ≤ 4096) (h : Loc A) (F : FiS A d M (visR A).1) (hr : A.r < A.L.length → gb M A.r = true) (hl : (d.length : Int) = A.N.length) (hs : srtB d) (hm : ¬ ∃ i : Int, 0 ≤ i ∧ i < M.length ∧ gb M i = false) : Ok A :=
  ⟨h1, h2, h, (chk_fin h h1.1 F hr).2 ⟨⟨hl, sorted_id (visR_ok h).inv F hl hs⟩, fun c c0 c1 => by
    have := F.ml
    cases hq : gb M c with
    | true => rfl
    | false => exact absurd ⟨c, c0, by omega, hq⟩ hm⟩⟩
theorem chk_no3 (h1 : 0 ≤ A.v) (h : Loc A) (F : FiS A d M (visR A).1) (hr : A.r < A.L.length → gb M A.r = true) (hm : ∃ i : Int, 0 ≤ i ∧ i < M.length ∧ gb M i = false) : ¬ fm A := fun z => by
  have := F.ml
  obtain ⟨c, c0, c1, c2⟩ := hm
  have e := ((chk_fin h h1 F hr).1 z.2).2 c c0 (by omega)
  rw [c2] at e; cases e
theorem chk_no2 (h1 : 0 ≤ A.v) (h : Loc A) (F : FiS A d M (visR A).1) (hr : A.r < A.L.length → gb M A.r = true) (hm : ¬ srtB d) : ¬ fm A := fun z => by
  have e := ((chk_fin h h1 F hr).1 z.2).1.2
  exact hm fun x a b => by rw [e x (by omega) b, e (x - 1) (by omega) (by omega)]; omega
theorem chk_no1 (h1 : 0 ≤ A.v) (h : Loc A) (F : FiS A d M (visR A).1) (hr : A.r < A.L.length → gb M A.r = true) (hm : ¬ (d.length : Int) = A.N.length) : ¬ fm A := fun z => hm ((chk_fin h h1 F hr).1 z.2).1.1
theorem chk_no0 {j : Int} (h0 : 0 ≤ j) (h1 : j < A.N.length) (hs : ∃ i : Int, 0 ≤ i ∧ i < (A.N.take j.toNat).length ∧ fk (A.N.take j.toNat) i = fk A.N j) : ¬ fm A := fun z => by
  obtain ⟨k, k0, k1, k2⟩ := (seen_iff h0 h1).1 hs
  exact (z.1.nd j h0 h1).2.2.1 k k0 k1 k2
end
end Go.Proofs.Ytkmhjcjpohpiaaa
