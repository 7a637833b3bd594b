/- Strided intervals: what the functions of numeric compute, and what it means. No program in sight. -/
import Derived.Test.YtapkilaikcihgaaVcS
namespace Go.Proofs.Ytapkilaikcihgaa
open Go.Vc
structure Nm where
  l : Int
  h : Int
  s : Int
deriving DecidableEq
theorem Nm.ext' {a b : Nm} (h1 : a.l = b.l) (h2 : a.h = b.h) (h3 : a.s = b.s) : a = b := by cases a; cases b; simp_all
def fits (n : Int) : Prop := -1099511627776 ≤ n ∧ n ≤ 1099511627776
instance (n : Int) : Decidable (fits n) := inferInstanceAs (Decidable (_ ∧ _))
abbrev nE : Nm := ⟨1, 0, 0⟩
abbrev sgl (n : Int) : Nm := ⟨n, n, 0⟩
/-- A set in canonical form. -/
def vld (a : Nm) : Prop := (a.l = 1 ∧ a.h = 0 ∧ a.s = 0) ∨ (fits a.l ∧ fits a.h ∧ a.l ≤ a.h ∧ (a.l = a.h → a.s = 0) ∧ (a.l ≠ a.h → 1 ≤ a.s ∧ (a.h - a.l) % a.s = 0))
instance (a : Nm) : Decidable (vld a) := inferInstanceAs (Decidable (_ ∨ _))
def mem (a : Nm) (n : Int) : Prop := a.l ≤ n ∧ n ≤ a.h ∧ a.s ∣ n - a.l
def spanF (lo hi st : Int) : Nm := if hi < lo then nE else if st = 0 then sgl lo else if lo = lo + (hi - lo) / st * st then sgl lo else ⟨lo, lo + (hi - lo) / st * st, st⟩
def gcdF (xs : List Int) : Int := xs.foldl (fun o n => (Int.gcd o n : Int)) 0
def mag (n : Int) : Int := if n < -n then -n else n
def mn (a b : Int) : Int := if b < a then b else a
def mx (a b : Int) : Int := if a < b then b else a
def joinF (a b : Nm) : Nm := if a = nE then b else if b = nE ∨ a = b then a else spanF (mn a.l b.l) (mx a.h b.h) (gcdF [a.s, b.s, mag (a.l - b.l)])
def ofF (xs : List Int) : Nm := xs.foldl (fun o n => joinF o (sgl n)) nE
def fitAll (xs : List Int) : Bool := xs.all fun x => decide (fits x)
def ofN (xs : List Int) : Nm := if fitAll xs = true then ofF xs else ⟨0, 0, 0⟩
def ofE (xs : List Int) : Int := if fitAll xs = true then 0 else 3
def mkOk (lo hi st : Int) : Prop := fits lo ∧ fits hi ∧ 1 ≤ st
instance (lo hi st : Int) : Decidable (mkOk lo hi st) := inferInstanceAs (Decidable (_ ∧ _))
def mkN (lo hi st : Int) : Nm := if mkOk lo hi st then spanF lo hi st else ⟨0, 0, 0⟩
def mkE (lo hi st : Int) : Int := if mkOk lo hi st then 0 else 3
/- facts -/
theorem nE_iff {a : Nm} : a = nE ↔ (a.l = 1 ∧ a.h = 0 ∧ a.s = 0) := by cases a; simp [nE]
theorem nm_iff {a b : Nm} : a = b ↔ (a.l = b.l ∧ a.h = b.h ∧ a.s = b.s) := by cases a; cases b; simp
theorem spanF_1 {lo hi st : Int} (h : hi < lo) : spanF lo hi st = nE := by unfold spanF; rw [if_pos h]
theorem spanF_2 {lo hi st : Int} (h : ¬ hi < lo) (h2 : st = 0) : spanF lo hi st = sgl lo := by unfold spanF; rw [if_neg h, if_pos h2]
theorem spanF_3 {lo hi st : Int} (h : ¬ hi < lo) (h2 : ¬ st = 0) (h3 : lo = lo + (hi - lo) / st * st) : spanF lo hi st = sgl lo := by unfold spanF; rw [if_neg h, if_neg h2, if_pos h3]
theorem spanF_4 {lo hi st : Int} (h : ¬ hi < lo) (h2 : ¬ st = 0) (h3 : ¬ lo = lo + (hi - lo) / st * st) : spanF lo hi st = ⟨lo, lo + (hi - lo) / st * st, st⟩ := by unfold spanF; rw [if_neg h, if_neg h2, if_neg h3]
theorem joinF_1 {a b : Nm} (h : a = nE) : joinF a b = b := by unfold joinF; rw [if_pos h]
theorem joinF_2 {a b : Nm} (h : ¬ a = nE) (h2 : b = nE ∨ a = b) : joinF a b = a := by unfold joinF; rw [if_neg h, if_pos h2]
theorem joinF_3 {a b : Nm} (h : ¬ a = nE) (h2 : ¬ (b = nE ∨ a = b)) : joinF a b = spanF (mn a.l b.l) (mx a.h b.h) (gcdF [a.s, b.s, mag (a.l - b.l)]) := by unfold joinF; rw [if_neg h, if_neg h2]
theorem ofN_1 {xs : List Int} (h : fitAll xs = true) : ofN xs = ofF xs := by unfold ofN; rw [if_pos h]
theorem ofN_0 {xs : List Int} (h : ¬ fitAll xs = true) : ofN xs = ⟨0, 0, 0⟩ := by unfold ofN; rw [if_neg h]
theorem ofE_1 {xs : List Int} (h : fitAll xs = true) : ofE xs = 0 := by unfold ofE; rw [if_pos h]
theorem ofE_0 {xs : List Int} (h : ¬ fitAll xs = true) : ofE xs = 3 := by unfold ofE; rw [if_neg h]
theorem mkN_1 {lo hi st : Int} (h : mkOk lo hi st) : mkN lo hi st = spanF lo hi st := by unfold mkN; rw [if_pos h]
theorem mkN_0 {lo hi st : Int} (h : ¬ mkOk lo hi st) : mkN lo hi st = ⟨0, 0, 0⟩ := by unfold mkN; rw [if_neg h]
theorem mkE_1 {lo hi st : Int} (h : mkOk lo hi st) : mkE lo hi st = 0 := by unfold mkE; rw [if_pos h]
theorem mkE_0 {lo hi st : Int} (h : ¬ mkOk lo hi st) : mkE lo hi st = 3 := by unfold mkE; rw [if_neg h]
theorem fitAll_iff {xs : List Int} : fitAll xs = true ↔ ∀ i : Int, 0 ≤ i → i < xs.length → fits (gi xs i) := by
  unfold fitAll
  rw [List.all_eq_true]
  constructor
  · intro h i h0 h1
    have hlt : i.toNat < xs.length := by omega
    have := h (xs[i.toNat]) (List.getElem_mem hlt)
    simpa [gi, List.getElem?_eq_getElem hlt] using this
  · intro h x hx
    obtain ⟨j, hj, rfl⟩ := List.mem_iff_getElem.1 hx
    have := h j (by omega) (by omega)
    simpa [gi, List.getElem?_eq_getElem hj] using this
theorem take_step {xs : List Int} {p : Int} (h0 : 0 ≤ p) (h1 : p < xs.length) : xs.take (p + 1).toNat = xs.take p.toNat ++ [gi xs p] := by
  have hlt : p.toNat < xs.length := by omega
  rw [show (p + 1).toNat = p.toNat + 1 by omega, List.take_add_one]
  simp [gi, List.getElem?_eq_getElem hlt]
theorem gcdF_snoc (xs : List Int) (n : Int) : gcdF (xs ++ [n]) = (Int.gcd (gcdF xs) n : Int) := by simp [gcdF]
theorem ofF_snoc (xs : List Int) (n : Int) : ofF (xs ++ [n]) = joinF (ofF xs) (sgl n) := by simp [ofF]
theorem gcdF_nn (xs : List Int) : 0 ≤ gcdF xs := by
  unfold gcdF
  rcases List.eq_nil_or_concat xs with rfl | ⟨ys, y, rfl⟩
  · simp
  · simp only [List.concat_eq_append, List.foldl_append, List.foldl_cons, List.foldl_nil]; omega
theorem gcd_step {o n : Int} (ho : 0 ≤ o) (hn : 0 < n) : Int.gcd n (o % n) = Int.gcd o n := by
  have e1 : (o % n).natAbs = o.natAbs % n.natAbs := by
    rw [← Int.natAbs_emod_of_nonneg ho]
  unfold Int.gcd
  rw [e1, Nat.gcd_comm o.natAbs n.natAbs, Nat.gcd_rec n.natAbs o.natAbs, Nat.gcd_comm]
theorem gi_mem {xs : List Int} {i : Int} (h0 : 0 ≤ i) (h1 : i < xs.length) : gi xs i ∈ xs := by
  have hlt : i.toNat < xs.length := by omega
  simp [gi, List.getElem?_eq_getElem hlt]
/- what it means -/
theorem vld_nE : vld nE := Or.inl ⟨rfl, rfl, rfl⟩
theorem vld_sgl {n : Int} (h : fits n) : vld (sgl n) := Or.inr ⟨h, h, Int.le_refl _, fun _ => rfl, fun q => absurd rfl q⟩
theorem mem_nE {n : Int} : ¬ mem nE n := fun ⟨a, b, _⟩ => by simp [nE] at a b; omega
theorem mem_sgl {n x : Int} : mem (sgl n) x ↔ x = n := by
  constructor
  · rintro ⟨a, b, _⟩; simp [sgl] at a b; omega
  · rintro rfl; exact ⟨Int.le_refl _, Int.le_refl _, by simp [sgl]⟩
theorem vld_ne {a : Nm} (h : vld a) (he : a ≠ nE) : fits a.l ∧ fits a.h ∧ a.l ≤ a.h ∧ (a.l = a.h → a.s = 0) ∧ (a.l ≠ a.h → 1 ≤ a.s ∧ (a.h - a.l) % a.s = 0) := h.elim (fun q => absurd (nE_iff.2 q) he) id
theorem vld_bd {a : Nm} (h : vld a) : fits a.l ∧ fits a.h ∧ 0 ≤ a.s := by
  by_cases he : a = nE
  · subst he; decide
  · obtain ⟨h1, h2, h3, h4, h5⟩ := vld_ne h he
    refine ⟨h1, h2, ?_⟩
    by_cases hq : a.l = a.h
    · rw [h4 hq]; omega
    · have := (h5 hq).1; omega
theorem vld_dvd {a : Nm} (h : vld a) (he : a ≠ nE) : a.s ∣ a.h - a.l := by
  obtain ⟨h1, h2, h3, h4, h5⟩ := vld_ne h he
  by_cases hq : a.l = a.h
  · rw [h4 hq, hq]; simp
  · exact Int.dvd_of_emod_eq_zero (h5 hq).2
theorem mem_l {a : Nm} (h : vld a) (he : a ≠ nE) : mem a a.l := ⟨Int.le_refl _, (vld_ne h he).2.2.1, by simp⟩
theorem mem_h {a : Nm} (h : vld a) (he : a ≠ nE) : mem a a.h := ⟨(vld_ne h he).2.2.1, Int.le_refl _, vld_dvd h he⟩
theorem mem_ne {a : Nm} {n : Int} (h : mem a n) : a ≠ nE := fun e => mem_nE (e ▸ h)
/-- Every element of a is one of b. -/
def sub (a b : Nm) : Prop := ∀ n, mem a n → mem b n
theorem sub_iff {a b : Nm} (ha : vld a) (he : a ≠ nE) : sub a b ↔ (mem b a.l ∧ mem b a.h ∧ b.s ∣ a.s) := by
  obtain ⟨h1, h2, h3, h4, h5⟩ := vld_ne ha he
  constructor
  · intro h
    have m1 := h _ (mem_l ha he)
    refine ⟨m1, h _ (mem_h ha he), ?_⟩
    by_cases hq : a.l = a.h
    · rw [h4 hq]; exact Int.dvd_zero _
    · have hs := (h5 hq).1
      have hd := vld_dvd ha he
      have hle : a.s ≤ a.h - a.l := Int.le_of_dvd (by omega) hd
      have m2 : mem a (a.l + a.s) := ⟨by omega, by omega, by rw [show a.l + a.s - a.l = a.s by omega]; exact Int.dvd_refl _⟩
      have := (h _ m2).2.2
      have e := Int.dvd_sub this m1.2.2
      rwa [show a.l + a.s - b.l - (a.l - b.l) = a.s by omega] at e
  · rintro ⟨m1, m2, hd⟩ n ⟨n1, n2, n3⟩
    refine ⟨by have := m1.1; omega, by have := m2.2.1; omega, ?_⟩
    have e := Int.dvd_add (Int.dvd_trans hd n3) m1.2.2
    rwa [show n - a.l + (a.l - b.l) = n - b.l by omega] at e
theorem sub_antisymm {a b : Nm} (ha : vld a) (hb : vld b) (h1 : sub a b) (h2 : sub b a) : a = b := by
  by_cases he : a = nE
  · by_cases hf : b = nE
    · rw [he, hf]
    · exact absurd (he ▸ h2 _ (mem_l hb hf)) mem_nE
  · by_cases hf : b = nE
    · exact absurd (hf ▸ h1 _ (mem_l ha he)) mem_nE
    · have a1 := (sub_iff ha he).1 h1
      have b1 := (sub_iff hb hf).1 h2
      have a2 := vld_bd ha
      have b2 := vld_bd hb
      refine Nm.ext' ?_ ?_ (Int.dvd_antisymm a2.2.2 b2.2.2 b1.2.2 a1.2.2)
      · have := a1.1.1; have := b1.1.1; omega
      · have := a1.2.1.2.1; have := b1.2.1.2.1; omega
/-- The least set that contains all n with P n. -/
structure Least (P : Int → Prop) (a : Nm) : Prop where
  ok : vld a
  all : ∀ n, P n → mem a n
  min : ∀ b, vld b → (∀ n, P n → mem b n) → sub a b
theorem Least.unique {P : Int → Prop} {a b : Nm} (h : Least P a) (k : Least P b) : a = b := sub_antisymm h.ok k.ok (h.min b k.ok k.all) (k.min a h.ok h.all)
theorem Least.congr {P Q : Int → Prop} {a : Nm} (h : Least P a) (e : ∀ n, P n ↔ Q n) : Least Q a := ⟨h.ok, fun n q => h.all n ((e n).2 q), fun b hb hq => h.min b hb fun n p => hq n ((e n).1 p)⟩
theorem least_nE {P : Int → Prop} (h : ∀ n, ¬ P n) : Least P nE := ⟨vld_nE, fun n p => absurd p (h n), fun _ _ _ n m => absurd m mem_nE⟩
theorem least_self {a : Nm} (h : vld a) : Least (mem a) a := ⟨h, fun _ m => m, fun _ _ k => k⟩
theorem span_exact {lo hi st : Int} (h : lo < hi) (hs : 1 ≤ st) (hd : st ∣ hi - lo) : spanF lo hi st = ⟨lo, hi, st⟩ := by
  have e : (hi - lo) / st * st = hi - lo := Int.ediv_mul_cancel hd
  rw [spanF_4 (by omega) (by omega) (by omega), e]; congr 1; omega
theorem span_vld {lo hi st : Int} (hl : fits lo) (hh : fits hi) (hs : 0 ≤ st) : vld (spanF lo hi st) := by
  by_cases h1 : hi < lo
  · rw [spanF_1 h1]; exact vld_nE
  by_cases h2 : st = 0
  · rw [spanF_2 h1 h2]; exact vld_sgl hl
  by_cases h3 : lo = lo + (hi - lo) / st * st
  · rw [spanF_3 h1 h2 h3]; exact vld_sgl hl
  rw [spanF_4 h1 h2 h3]
  have e1 := Int.emod_add_mul_ediv (hi - lo) st
  have e2 := Int.emod_nonneg (hi - lo) h2
  have e3 := Int.ediv_nonneg (show 0 ≤ hi - lo by omega) hs
  have e4 : 0 ≤ (hi - lo) / st * st := Int.mul_nonneg e3 hs
  rw [Int.mul_comm] at e1
  unfold fits at hl hh
  exact Or.inr ⟨by unfold fits; dsimp only; omega, by unfold fits; dsimp only; omega, by dsimp only; omega, fun q => absurd q h3, fun _ => ⟨by dsimp only; omega, by dsimp only; rw [show lo + (hi - lo) / st * st - lo = (hi - lo) / st * st by omega]; exact Int.mul_emod_left _ _⟩⟩
theorem gcd3 {a b c d : Int} : d ∣ gcdF [a, b, c] ↔ (d ∣ a ∧ d ∣ b ∧ d ∣ c) := by
  have e : gcdF [a, b, c] = (Int.gcd (Int.gcd (Int.gcd 0 a : Int) b : Int) c : Int) := rfl
  rw [e]
  constructor
  · intro h
    have h1 := Int.dvd_trans h (Int.gcd_dvd_left ..)
    have h2 := Int.dvd_trans h1 (Int.gcd_dvd_left ..)
    exact ⟨Int.dvd_trans h2 (Int.gcd_dvd_right ..), Int.dvd_trans h1 (Int.gcd_dvd_right ..), Int.dvd_trans h (Int.gcd_dvd_right ..)⟩
  · rintro ⟨h1, h2, h3⟩
    exact Int.dvd_coe_gcd (Int.dvd_coe_gcd (Int.dvd_coe_gcd (Int.dvd_zero _) h1) h2) h3
theorem mag_dvd {d n : Int} : d ∣ mag n ↔ d ∣ n := by
  unfold mag; split
  · exact Int.dvd_neg
  · exact Iff.rfl
theorem mag_nn (n : Int) : 0 ≤ mag n := by unfold mag; split <;> omega
theorem mn_1 {a b : Int} (h : b < a) : mn a b = b := if_pos h
theorem mn_0 {a b : Int} (h : ¬ b < a) : mn a b = a := if_neg h
theorem mx_1 {a b : Int} (h : a < b) : mx a b = b := if_pos h
theorem mx_0 {a b : Int} (h : ¬ a < b) : mx a b = a := if_neg h
theorem dvd_eq {a b : Int} (ha : 0 ≤ a) (hb : 0 ≤ b) (h : ∀ d : Int, d ∣ a ↔ d ∣ b) : a = b := Int.dvd_antisymm ha hb ((h a).1 (Int.dvd_refl _)) ((h b).2 (Int.dvd_refl _))
theorem join_data {a b : Nm} (ha : vld a) (hb : vld b) (he : a ≠ nE) (hf : b ≠ nE) {L H G : Int} (hL : mn a.l b.l = L) (hH : mx a.h b.h = H) (hG : gcdF [a.s, b.s, mag (a.l - b.l)] = G) :
    fits L ∧ fits H ∧ L ≤ H ∧ 0 ≤ G ∧ G ∣ a.s ∧ G ∣ b.s ∧ G ∣ a.l - L ∧ G ∣ b.l - L ∧ G ∣ H - L ∧ (L = H → a = b) := by
  obtain ⟨a1, a2, a3, a4, a5⟩ := vld_ne ha he
  obtain ⟨b1, b2, b3, b4, b5⟩ := vld_ne hb hf
  have ad := vld_dvd ha he
  have bd := vld_dvd hb hf
  have mnl : L ≤ a.l ∧ L ≤ b.l ∧ (L = a.l ∨ L = b.l) := by rw [← hL]; unfold mn; split <;> omega
  have mxh : a.h ≤ H ∧ b.h ≤ H ∧ (H = a.h ∨ H = b.h) := by rw [← hH]; unfold mx; split <;> omega
  have gdv := (gcd3 (a := a.s) (b := b.s) (c := mag (a.l - b.l)) (d := G)).1 (hG ▸ Int.dvd_refl _)
  rw [mag_dvd] at gdv
  obtain ⟨g1, g2, g3⟩ := gdv
  have dL : G ∣ a.l - L ∧ G ∣ b.l - L := by
    rcases mnl.2.2 with e | e
    · rw [e]; refine ⟨by simp, ?_⟩; have := Int.dvd_neg.2 g3; rwa [show -(a.l - b.l) = b.l - a.l by omega] at this
    · rw [e]; exact ⟨g3, by simp⟩
  have dA := Int.dvd_trans g1 ad
  have dB := Int.dvd_trans g2 bd
  have dH : G ∣ H - L := by
    rcases mxh.2.2 with e | e
    · have := Int.dvd_add dA dL.1; rwa [show a.h - a.l + (a.l - L) = H - L by omega] at this
    · have := Int.dvd_add dB dL.2; rwa [show b.h - b.l + (b.l - L) = H - L by omega] at this
  refine ⟨?_, ?_, by omega, hG ▸ gcdF_nn _, g1, g2, dL.1, dL.2, dH, fun e => ?_⟩
  · rcases mnl.2.2 with e | e <;> rw [e] <;> assumption
  · rcases mxh.2.2 with e | e <;> rw [e] <;> assumption
  · exact Nm.ext' (by omega) (by omega) (by rw [a4 (by omega), b4 (by omega)])
theorem joinF_val {a b : Nm} (ha : vld a) (hb : vld b) (he : a ≠ nE) (hf : b ≠ nE) : joinF a b = ⟨mn a.l b.l, mx a.h b.h, gcdF [a.s, b.s, mag (a.l - b.l)]⟩ := by
  obtain ⟨fL, fH, hLH, gnn, g1, g2, d1, d2, dH, hq⟩ := join_data ha hb he hf rfl rfl rfl
  by_cases h : a = b
  · subst h
    rw [joinF_2 he (Or.inr rfl)]
    refine Nm.ext' (by unfold mn; split <;> rfl) (by unfold mx; split <;> rfl) ?_
    refine dvd_eq (vld_bd ha).2.2 gnn fun d => ?_
    rw [gcd3, mag_dvd]; simp
  · rw [joinF_3 he (by rintro (e | e); exact hf e; exact h e)]
    have hlt : mn a.l b.l < mx a.h b.h := by have : mn a.l b.l ≠ mx a.h b.h := fun e => h (hq e); omega
    have hG1 : gcdF [a.s, b.s, mag (a.l - b.l)] ≠ 0 := by
      intro e
      rw [e] at dH
      have := Int.zero_dvd.1 dH
      omega
    exact span_exact hlt (by omega) dH
theorem join_least {a b : Nm} (ha : vld a) (hb : vld b) : Least (fun n => mem a n ∨ mem b n) (joinF a b) := by
  by_cases he : a = nE
  · rw [joinF_1 he]
    exact (least_self hb).congr fun n => ⟨Or.inr, fun q => q.elim (fun m => absurd (he ▸ m) mem_nE) id⟩
  by_cases hf : b = nE
  · rw [joinF_2 he (Or.inl hf)]
    exact (least_self ha).congr fun n => ⟨Or.inl, fun q => q.elim id (fun m => absurd (hf ▸ m) mem_nE)⟩
  obtain ⟨fL, fH, hLH, gnn, g1, g2, d1, d2, dH, hq⟩ := join_data ha hb he hf rfl rfl rfl
  have hval := joinF_val ha hb he hf
  have hv : vld (joinF a b) := by
    by_cases h : a = b
    · rw [joinF_2 he (Or.inr h)]; exact ha
    · rw [joinF_3 he (by rintro (e | e); exact hf e; exact h e)]; exact span_vld fL fH gnn
  have hgen : ∀ d : Int, (d ∣ a.s ∧ d ∣ b.s ∧ d ∣ a.l - b.l) → d ∣ gcdF [a.s, b.s, mag (a.l - b.l)] := fun d q => gcd3.2 ⟨q.1, q.2.1, mag_dvd.2 q.2.2⟩
  have mnl : mn a.l b.l ≤ a.l ∧ mn a.l b.l ≤ b.l ∧ (mn a.l b.l = a.l ∨ mn a.l b.l = b.l) := by unfold mn; split <;> omega
  have mxh : a.h ≤ mx a.h b.h ∧ b.h ≤ mx a.h b.h ∧ (mx a.h b.h = a.h ∨ mx a.h b.h = b.h) := by unfold mx; split <;> omega
  rw [hval] at hv ⊢
  refine ⟨hv, fun n q => ?_, fun c hc hq => ?_⟩
  · rcases q with ⟨q1, q2, q3⟩ | ⟨q1, q2, q3⟩
    · refine ⟨by dsimp only; omega, by dsimp only; omega, ?_⟩
      have := Int.dvd_add (Int.dvd_trans g1 q3) d1
      rwa [show n - a.l + (a.l - mn a.l b.l) = n - mn a.l b.l by omega] at this
    · refine ⟨by dsimp only; omega, by dsimp only; omega, ?_⟩
      have := Int.dvd_add (Int.dvd_trans g2 q3) d2
      rwa [show n - b.l + (b.l - mn a.l b.l) = n - mn a.l b.l by omega] at this
  · have sa := (sub_iff ha he).1 fun n m => hq n (Or.inl m)
    have sb := (sub_iff hb hf).1 fun n m => hq n (Or.inr m)
    refine (sub_iff hv (fun e => ?_)).2 ⟨?_, ?_, ?_⟩
    · have e1 := congrArg Nm.l e
      have e2 := congrArg Nm.h e
      dsimp only at e1 e2
      omega
    · dsimp only; rcases mnl.2.2 with e | e <;> rw [e]
      · exact sa.1
      · exact sb.1
    · dsimp only; rcases mxh.2.2 with e | e <;> rw [e]
      · exact sa.2.1
      · exact sb.2.1
    · refine hgen c.s ⟨sa.2.2, sb.2.2, ?_⟩
      have := Int.dvd_sub sa.1.2.2 sb.1.2.2
      rwa [show a.l - c.l - (b.l - c.l) = a.l - b.l by omega] at this
theorem Least.join {P Q : Int → Prop} {a b : Nm} (h : Least P a) (k : Least Q b) : Least (fun n => P n ∨ Q n) (joinF a b) := by
  have j := join_least h.ok k.ok
  refine ⟨j.ok, fun n q => j.all n (q.elim (fun p => Or.inl (h.all n p)) (fun p => Or.inr (k.all n p))), fun c hc hq => j.min c hc ?_⟩
  rintro n (m | m)
  · exact h.min c hc (fun n p => hq n (Or.inl p)) n m
  · exact k.min c hc (fun n p => hq n (Or.inr p)) n m
theorem least_sgl {n : Int} (h : fits n) : Least (fun x => x = n) (sgl n) := (least_self (vld_sgl h)).congr fun x => mem_sgl
theorem least_foldl : ∀ (xs : List Int) (o : Nm) (P : Int → Prop), Least P o → (∀ x ∈ xs, fits x) → Least (fun n => P n ∨ n ∈ xs) (xs.foldl (fun o n => joinF o (sgl n)) o)
  | [], o, P, h, _ => h.congr fun n => by simp
  | x :: xs, o, P, h, hf => by
    have := least_foldl xs _ _ (h.join (least_sgl (hf x (by simp)))) (fun y hy => hf y (by simp [hy]))
    exact this.congr fun n => by simp [or_assoc]
theorem least_of {xs : List Int} (h : ∀ x ∈ xs, fits x) : Least (fun n => n ∈ xs) (ofF xs) := (least_foldl xs nE (fun _ => False) (least_nE fun _ => id) h).congr fun n => by simp
theorem fitAll_mem {xs : List Int} : fitAll xs = true ↔ ∀ x ∈ xs, fits x := by unfold fitAll; rw [List.all_eq_true]; simp
def aw (a b : Int) : Int := if a < b then b - a else a - b
theorem aw_1 {a b : Int} (h : a < b) : aw a b = b - a := if_pos h
theorem aw_0 {a b : Int} (h : ¬ a < b) : aw a b = a - b := if_neg h
theorem aw_nn (a b : Int) : 0 ≤ aw a b := by unfold aw; split <;> omega
theorem aw_dvd {d a b : Int} : d ∣ aw a b ↔ d ∣ a - b := by
  unfold aw; split
  · rw [← Int.dvd_neg, show -(b - a) = a - b by omega]
  · exact Iff.rfl
theorem gcd2 {a b d : Int} : d ∣ (Int.gcd a b : Int) ↔ (d ∣ a ∧ d ∣ b) :=
  ⟨fun h => ⟨Int.dvd_trans h (Int.gcd_dvd_left ..), Int.dvd_trans h (Int.gcd_dvd_right ..)⟩, fun h => Int.dvd_coe_gcd h.1 h.2⟩
theorem mem_take {xs : List Int} {p : Int} {x : Int} (h : x ∈ xs.take p.toNat) : ∃ i : Int, 0 ≤ i ∧ i < p ∧ i < xs.length ∧ gi xs i = x := by
  obtain ⟨j, hj, rfl⟩ := List.mem_iff_getElem.1 h
  rw [List.length_take] at hj
  refine ⟨j, by omega, by omega, by omega, ?_⟩
  have hlt : j < xs.length := by omega
  simp [gi, List.getElem?_eq_getElem hlt]
theorem gi_take {xs : List Int} {p i : Int} (h0 : 0 ≤ i) (h1 : i < p) (h2 : i < xs.length) : gi xs i ∈ xs.take p.toNat := by
  have hlt : i.toNat < xs.length := by omega
  have e : gi xs i = xs[i.toNat] := by simp [gi, List.getElem?_eq_getElem hlt]
  rw [e, List.mem_iff_getElem]
  exact ⟨i.toNat, by rw [List.length_take]; omega, by simp⟩
theorem nn3 {a b c : Int} (ha : 0 ≤ a) (hb : 0 ≤ b) (hc : 0 ≤ c) : ∀ i : Int, 0 ≤ i → i < [a, b, c].length → 0 ≤ gi [a, b, c] i := fun i h0 h1 => by
  simp only [List.length_cons, List.length_nil] at h1
  have : i = 0 ∨ i = 1 ∨ i = 2 := by omega
  rcases this with rfl | rfl | rfl <;> assumption
theorem ofF_one {n : Int} : ofF [n] = sgl n := joinF_1 rfl
theorem of_take {xs : List Int} {p : Int} (h : ∀ i : Int, 0 ≤ i → i < p → fits (gi xs i)) : Least (fun n => n ∈ xs.take p.toNat) (ofF (xs.take p.toNat)) :=
  least_of fun x hx => by obtain ⟨i, a, b, _, rfl⟩ := mem_take hx; exact h i a b
/-- One more value. -/
theorem of_step {ys : List Int} {lo hi st v v0 : Int} (h : Least (fun n => n ∈ ys) ⟨lo, hi, st⟩) (h0 : v0 ∈ ys) (hf : fits v) :
    Least (fun n => n ∈ ys ++ [v]) ⟨mn lo v, mx hi v, (Int.gcd st (aw v v0) : Int)⟩ := by
  have hm := h.all v0 h0
  have he : (⟨lo, hi, st⟩ : Nm) ≠ nE := mem_ne hm
  have hs : sgl v ≠ nE := fun e => by have := congrArg Nm.l e; have := congrArg Nm.h e; simp at *; omega
  have hj := (h.join (least_sgl hf)).congr (Q := fun n => n ∈ ys ++ [v]) (fun n => by simp)
  rw [joinF_val h.ok (vld_sgl hf) he hs] at hj
  have e : gcdF [st, 0, mag (lo - v)] = (Int.gcd st (aw v v0) : Int) := by
    refine dvd_eq (gcdF_nn _) (by omega) fun d => ?_
    rw [gcd3, gcd2, mag_dvd, aw_dvd]
    have hd : st ∣ v0 - lo := hm.2.2
    constructor
    · rintro ⟨a, _, c⟩
      refine ⟨a, ?_⟩
      have := Int.dvd_neg.2 (Int.dvd_add (Int.dvd_trans a hd) c)
      rwa [show -(v0 - lo + (lo - v)) = v - v0 by omega] at this
    · rintro ⟨a, c⟩
      refine ⟨a, Int.dvd_zero _, ?_⟩
      have := Int.dvd_neg.2 (Int.dvd_add (Int.dvd_trans a hd) c)
      rwa [show -(v0 - lo + (v - v0)) = lo - v by omega] at this
  have hj2 : Least (fun n => n ∈ ys ++ [v]) ⟨mn lo v, mx hi v, gcdF [st, 0, mag (lo - v)]⟩ := hj
  rwa [e] at hj2
theorem agg3 {S T : Nm} (h : S = T) : Value.agg #[.int .i64 S.l, .int .i64 S.h, .int .i64 S.s] = Value.agg #[.int .i64 T.l, .int .i64 T.h, .int .i64 T.s] := by rw [h]
end Go.Proofs.Ytapkilaikcihgaa
