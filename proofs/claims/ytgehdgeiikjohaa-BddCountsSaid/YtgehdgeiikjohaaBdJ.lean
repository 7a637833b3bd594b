/- What the bdd laws compare, case by case. No program in sight. -/
import Derived.Test.YtgehdgeiikjohaaBdI
namespace Go.Proofs.Ytgehdgeiikjohaa
open Go Go.Vc
open Classical
theorem vE1_1 {A : Dg} (h : chkC A.v A.N A.r ≠ 0) : vE [A] = 1 := vE_1 fun q => h (chk_ok.2 (q 0 (by omega) (by show (0 : Int) < ((1 : Nat) : Int); omega)))
theorem vE1_0 {A : Dg} (h : chkC A.v A.N A.r = 0) : vE [A] = 0 := vE1 (chk_ok.1 h)
theorem vld3 {A B C0 : Dg} : Vld [A, B, C0] ↔ dOk A ∧ dOk B ∧ dOk C0 := ⟨fun q => ⟨q 0 (by omega) (by show (0 : Int) < ((3 : Nat) : Int); omega), q 1 (by omega) (by show (1 : Int) < ((3 : Nat) : Int); omega), q 2 (by omega) (by show (2 : Int) < ((3 : Nat) : Int); omega)⟩, fun q i h0 h1 => by
  have h1 : i < ((3 : Nat) : Int) := h1
  rcases (show i = 0 ∨ i = 1 ∨ i = 2 by omega) with rfl | rfl | rfl
  · exact q.1
  · exact q.2.1
  · exact q.2.2⟩
theorem sam3 {A B C0 : Dg} : Sam [A, B, C0] ↔ B.v = A.v ∧ C0.v = A.v := ⟨fun q => ⟨q 1 (by omega) (by show (1 : Int) < ((3 : Nat) : Int); omega), q 2 (by omega) (by show (2 : Int) < ((3 : Nat) : Int); omega)⟩, fun q i h0 h1 => by
  have h1 : i < ((3 : Nat) : Int) := h1
  rcases (show i = 0 ∨ i = 1 ∨ i = 2 by omega) with rfl | rfl | rfl
  · rfl
  · exact q.1
  · exact q.2⟩
theorem vE3_1 {A B C0 : Dg} (h : chkC A.v A.N A.r ≠ 0 ∨ chkC B.v B.N B.r ≠ 0 ∨ chkC C0.v C0.N C0.r ≠ 0) : vE [A, B, C0] = 1 := vE_1 fun q => by
  obtain ⟨a, b, c⟩ := vld3.1 q
  have a := chk_ok.2 a
  have b := chk_ok.2 b
  have c := chk_ok.2 c
  rcases h with h | h | h
  · exact h a
  · exact h b
  · exact h c
theorem vE3_2 {A B C0 : Dg} (ha : chkC A.v A.N A.r = 0) (hb : chkC B.v B.N B.r = 0) (hc : chkC C0.v C0.N C0.r = 0) (h : B.v ≠ C0.v ∨ B.v ≠ A.v) : vE [A, B, C0] = 2 := vE_2 (vld3.2 ⟨chk_ok.1 ha, chk_ok.1 hb, chk_ok.1 hc⟩) fun q => by
  obtain ⟨a, b⟩ := sam3.1 q
  omega
theorem vE3_0 {A B C0 : Dg} (ha : chkC A.v A.N A.r = 0) (hb : chkC B.v B.N B.r = 0) (hc : chkC C0.v C0.N C0.r = 0) (h : B.v = C0.v) (h2 : B.v = A.v) : vE [A, B, C0] = 0 := vE_0 (vld3.2 ⟨chk_ok.1 ha, chk_ok.1 hb, chk_ok.1 hc⟩) (sam3.2 ⟨by omega, by omega⟩)
theorem tbD_v {A : Dg} {vars : Int} (h : A.v = vars) : tbD A = tbl vars (gA A) := by subst h; rfl
theorem fD_congr {vars : Int} {g g' : (Int → Bool) → Bool} (h : ∀ e, g e = g' e) : fD vars g = fD vars g' := by rw [funext h]
theorem not_fD (A : Dg) : cmD A.v [A] notF = fD A.v (fun e => !gA A e) := rfl
theorem not_law {A : Dg} (hok : dOk A) : cbD [A] notF = bldD A.v (tbl A.v (fun e => opF 3 (gA A e) (gA A e) false)) := by
  rw [cbD_0 (vE1 hok), bld_fD hok.1.1]
  exact (not_fD A).trans (fD_congr fun e => by cases gA A e <;> rfl)
theorem ap_law {A B : Dg} {op : Int} (hz : vE [A, B] = 0) (h : ¬ (op < 0 ∨ 15 < op)) : apD op A B = bldD A.v (tbl A.v (fun e => opF op (gA A e) (gA B e) false)) := by
  rw [(apE_0 hz h).2, bld_fD (ok2 hz).1.1.1]
  rfl
theorem ite_law {A B C0 : Dg} (hz : vE [A, B, C0] = 0) : cbD [A, B, C0] iteF = bldD B.v (tbl B.v (fun e => iteF (gA A e) (gA B e) (gA C0 e))) := by
  obtain ⟨hv, hs⟩ := vE_ok.1 hz
  obtain ⟨a, b, c⟩ := vld3.1 hv
  obtain ⟨e1, e2⟩ := sam3.1 hs
  rw [cbD_0 hz, bld_fD b.1.1]
  show cmD A.v _ _ = _
  rw [← e1]
  rfl
theorem rs_law {A : Dg} {i : Int} {b : Bool} (hz : vE [A] = 0) (h : ¬ (i < 0 ∨ A.v ≤ i)) : rsR A i b = bldD A.v (tbl A.v (fun e => gA A (up e i b))) := by
  rw [(rsE_0 hz h).2, bld_fD (ok_of hz).1.1]
  rfl
theorem cp_law {A B : Dg} {i : Int} (hz : vE [A, B] = 0) (h : ¬ (i < 0 ∨ A.v ≤ i)) : cpD A B i = bldD A.v (tbl A.v (fun e => iteF (gA B e) (gA A (up e i true)) (gA A (up e i false)))) := by
  rw [(cp_0 hz h).2, bld_fD (ok2 hz).1.1.1]
theorem qt_law {A : Dg} {l : List Int} {al : Bool} (hz : vE [A] = 0) (h : Wth A.v l) : qtD A l al = bldD A.v (tbl A.v (qgs (gA A) l al l.length)) := by
  rw [(qt_0 hz h).2, bld_fD (ok_of hz).1.1]
/- the constant diagram -/
theorem zero_ok {vars : Int} (h0 : 0 ≤ vars) (h40 : vars ≤ 40) : dOk ⟨vars, [], 0⟩ := by
  refine ⟨⟨h0, h40⟩, by show 0 ≤ 4096; omega, ⟨fm_nil, Int.le_refl _, by show (0 : Int) ≤ 1 + ((0 : Nat) : Int); omega⟩, ?_, ?_⟩
  · show (vis [] 1 0 ([], pl0)).1.1 = []
    rw [vis_hit pl0_z]
  · show (vis [] 1 0 ([], pl0)).2 = 0
    rw [vis_hit pl0_z]
theorem fD_zero {vars : Int} (h0 : 0 ≤ vars) (h40 : vars ≤ 40) {g : (Int → Bool) → Bool} (h : ∀ e, g e = false) : fD vars g = ⟨vars, [], 0⟩ := by
  rw [← ok_fD (zero_ok h0 h40)]
  exact fD_congr fun e => by
    rw [h e]
    show false = vl [] e 0
    rw [vl_const (by omega)]; rfl
theorem Dep.two' {vars : Int} {g1 g2 : (Int → Bool) → Bool} (F : Bool → Bool → Bool → Bool) (h1 : Dep vars g1) (h2 : Dep vars g2) : Dep vars (fun e => F (g1 e) (g2 e) false) := h1.two (fun x y => F x y false) h2
/-- The answer of Implies: no entry of a table is true. -/
theorem imp_law {B C0 : Dg} (hz : vE [B, C0] = 0) : (vE [B, C0] = 0 ∧ (cmb B.v [B, C0] impF).2 = 0) ↔ ¬ ∃ i : Int, 0 ≤ i ∧ i < (tbl B.v (fun e => opF 4 (gA B e) (gA C0 e) false)).length ∧ gb (tbl B.v (fun e => opF 4 (gA B e) (gA C0 e) false)) i = true := by
  obtain ⟨a, b, c⟩ := ok2 hz
  have hg : (fun e => opF 4 (gA B e) (gA C0 e) false) = fun e => impF (gA B e) (gA C0 e) false := funext fun e => by cases gA B e <;> cases gA C0 e <;> rfl
  rw [hg]
  have hc : cmb B.v [B, C0] impF = cF B.v (fun e => impF (gA B e) (gA C0 e) false) := rfl
  rw [hc]
  have hd : Dep B.v (fun e => impF (gA B e) (gA C0 e) false) := (gA_dep a).two' impF (c ▸ gA_dep b)
  generalize (fun e => impF (gA B e) (gA C0 e) false) = g at hd
  have hl := tbl_lenI B.v g
  constructor
  · rintro ⟨_, h⟩ ⟨i, i0, i1, hi⟩
    rw [hl] at i1
    rw [tbl_get i0 i1, ← gA_fD a.1.1 hd] at hi
    have : gA (fD B.v g) (asg B.v i) = decide ((fD B.v g).r = 1) := vl_const (by show (cF B.v g).2 < 2; omega)
    rw [this, show (fD B.v g).r = 0 from h] at hi
    cases hi
  · intro h
    refine ⟨hz, ?_⟩
    have hf : ∀ e, g e = false := fun e => by
      have : g = fun _ => false := dep_tbl a.1.1 hd (fun _ _ _ => rfl) (ext_gb (by rw [tbl_len, tbl_len]) fun i i0 i1 => by
        have i1' := i1
        rw [hl] at i1
        rw [tbl_get (g := fun _ => false) i0 i1]
        cases hq : gb (tbl B.v g) i
        · rfl
        · exact absurd ⟨i, i0, i1', hq⟩ h)
      rw [this]
    have := fD_zero a.1.1 a.1.2 hf
    have e2 : (fD B.v g).r = 0 := by rw [this]
    exact e2
/- two diagrams, entry by entry -/
theorem all_step' {P : Int → Prop} {k : Int} (g : ∀ j : Int, 0 ≤ j → j < k → P j) (h0 : 0 ≤ k) : P k ↔ ∀ j : Int, 0 ≤ j → j < k + 1 → P j := ⟨fun w => all_snoc g w, fun w => w k h0 (by omega)⟩
theorem all_no {P : Int → Prop} {k : Int} (g : ¬ ∀ j : Int, 0 ≤ j → j < k → P j) : ¬ ∀ j : Int, 0 ≤ j → j < k + 1 → P j := fun w => g fun j a b => w j a (by omega)
theorem canon_law {A B : Dg} {k : Int} (hA : dOk A) (hB : dOk B) (hv : A.v = B.v) (hk : (2 : Int) ^ A.v.toNat ≤ k) : (∀ j : Int, 0 ≤ j → j < k → gA A (asg A.v j) = gA B (asg A.v j)) ↔ A = B := by
  constructor
  · intro w
    have ht : tbl A.v (gA A) = tbl A.v (gA B) := tbl_congr fun j j0 j1 => w j j0 (by omega)
    have hg := dep_tbl hA.1.1 (gA_dep hA) (hv ▸ gA_dep hB) ht
    rw [← ok_fD hA, ← ok_fD hB, hg, hv]
  · intro e j _ _
    rw [e]
theorem gA_asL {A : Dg} {vars k : Int} (h : dOk A) (hv : A.v = vars) : gA A (fun i => gb (asL vars k) i) = gA A (asg vars k) := by
  subst hv
  exact vl_asL h.2.2.1.1 h.1.1 h.2.2.1.rf
/- a variable -/
theorem var_ok {vars i : Int} (h40 : vars ≤ 40) (h0 : 0 ≤ i) (h1 : i < vars) : dOk ⟨vars, [⟨i, 0, 1⟩], 2⟩ := by
  have f : Form vars [⟨i, 0, 1⟩] 2 := by
    refine ⟨nok_fm fun j j0 j1 => ?_, by omega, by show (2 : Int) ≤ 1 + ((1 : Nat) : Int); omega⟩
    have j1 : j < 1 := j1
    have : j = 0 := by omega
    subst this
    exact ⟨h0, h1, by show (0 : Int) ≠ 1; omega, fun k a b => by omega, ⟨Int.le_refl _, by show (0 : Int) ≤ 1 + 0; omega, h1⟩, ⟨by show (0 : Int) ≤ 1; omega, by show (1 : Int) ≤ 1 + 0; omega, h1⟩⟩
  have hx : (([], pl0), 0) = vis [⟨i, 0, 1⟩] 2 (fk [⟨i, 0, 1⟩] (2 - 2)).l ([], pl0) := (vis_hit pl0_z).symm
  have hy : (([], pl0), 1) = vis [⟨i, 0, 1⟩] 2 (fk [⟨i, 0, 1⟩] (2 - 2)).h (([], pl0), (0 : Int)).1 := (vis_hit pl0_o).symm
  have e := vis_miss (k := 2) (s := ([], pl0)) (pl0_n (r := 2) (by omega)) hx hy
  have e1 : (layF [⟨i, 0, 1⟩] 2).1 = [⟨i, 0, 1⟩] := by
    show (vis [⟨i, 0, 1⟩] (2 + 1) 2 ([], pl0)).1.1 = _
    rw [e]; rfl
  have e2 : (layF [⟨i, 0, 1⟩] 2).2 = 2 := by
    show (vis [⟨i, 0, 1⟩] (2 + 1) 2 ([], pl0)).2 = _
    rw [e]; rfl
  exact ⟨⟨by show 0 ≤ vars; omega, h40⟩, by show 1 ≤ 4096; omega, f, e1, e2⟩
theorem gA_var {vars i : Int} (h0 : 0 ≤ i) (h1 : i < vars) (h40 : vars ≤ 40) : gA ⟨vars, [⟨i, 0, 1⟩], 2⟩ = fun e => e i := by
  funext e
  have f := (var_ok h40 h0 h1).2.2.1.1
  show vl [⟨i, 0, 1⟩] e 2 = e i
  rw [vl_step f (by omega) (by show (2 : Int) < 2 + ((1 : Nat) : Int); omega)]
  show vl [⟨i, 0, 1⟩] e (if e i then 1 else 0) = e i
  cases e i
  · exact vl_const (by simp)
  · exact vl_const (by simp)
theorem up_self {e : Int → Bool} {i : Int} : up e i (e i) = e := by
  funext j
  unfold up
  by_cases h : j = i
  · rw [if_pos h, h]
  · rw [if_neg h]
/- expansion -/
def exX (A : Dg) (i : Int) : Dg := ⟨A.v, [⟨i, 0, 1⟩], 2⟩
def exN (A : Dg) : Dg := fD A.v (fun e => !gA A e)
def exS (A : Dg) (i : Int) : Dg := fD A.v (qgs (gA (exN A)) [i] false 1)
def exF (A : Dg) (i : Int) : Dg := fD A.v (qgs (gA A) [i] true 1)
theorem ex_va {A : Dg} {i : Int} (hok : dOk A) (_h12 : A.v ≤ 12) (h0 : 0 ≤ i) (h1 : i < A.v) : vaE A.v i = 0 ∧ vaD A.v i = exX A i := va_0 (by have := hok.1.1; omega)
theorem ex_rs {A : Dg} {i : Int} (hok : dOk A) (_h12 : A.v ≤ 12) (h0 : 0 ≤ i) (h1 : i < A.v) (b : Bool) : rsE A i = 0 ∧ rsR A i b = rsD A i b := rsE_0 (vE1 hok) (by omega)
theorem ex_it {A : Dg} {i : Int} (hok : dOk A) (h12 : A.v ≤ 12) (h0 : 0 ≤ i) (h1 : i < A.v) : vE [exX A i, rsD A i true, rsD A i false] = 0 ∧ cbD [exX A i, rsD A i true, rsD A i false] iteF = A := by
  have hz : vE [exX A i, rsD A i true, rsD A i false] = 0 := vE_0 (vld3.2 ⟨var_ok hok.1.2 h0 h1, rsD_ok hok h12 i true, rsD_ok hok h12 i false⟩) (sam3.2 ⟨rfl, rfl⟩)
  refine ⟨hz, ?_⟩
  rw [cbD_0 hz]
  refine Eq.trans (?_ : _ = fD A.v (gA A)) (ok_fD hok)
  show fD A.v (fun e => iteF (gA (exX A i) e) (gA (rsD A i true) e) (gA (rsD A i false) e)) = _
  refine fD_congr fun e => ?_
  rw [show gA (exX A i) = fun e => e i from gA_var h0 h1 hok.1.2, gA_rsD hok, gA_rsD hok]
  show (if e i = true then gA A (up e i true) else gA A (up e i false)) = gA A e
  cases h : e i
  · rw [if_neg (by simp), ← h, up_self]
  · rw [if_pos rfl, ← h, up_self]
theorem exN_ok {A : Dg} {i : Int} (hok : dOk A) (h12 : A.v ≤ 12) (_h0 : 0 ≤ i) (_h1 : i < A.v) : dOk (exN A) := fD_ok hok.1.1 h12 _
theorem exN_gA {A : Dg} {i : Int} (hok : dOk A) (_h12 : A.v ≤ 12) (_h0 : 0 ≤ i) (_h1 : i < A.v) : gA (exN A) = fun e => !gA A e := gA_fD hok.1.1 fun e e' he => by rw [gA_dep hok e e' he]
theorem ex_not {A : Dg} {i : Int} (hok : dOk A) (_h12 : A.v ≤ 12) (_h0 : 0 ≤ i) (_h1 : i < A.v) : vE [A] = 0 ∧ cbD [A] notF = exN A := ⟨vE1 hok, by rw [cbD_0 (vE1 hok)]; exact not_fD A⟩
theorem wth1 {A : Dg} {i : Int} (_hok : dOk A) (_h12 : A.v ≤ 12) (h0 : 0 ≤ i) (h1 : i < A.v) : Wth A.v [i] := fun j a b => by
  have b : j < ((1 : Nat) : Int) := b
  rw [show j = 0 by omega]; exact ⟨h0, h1⟩
theorem ex_ex {A : Dg} {i : Int} (hok : dOk A) (h12 : A.v ≤ 12) (h0 : 0 ≤ i) (h1 : i < A.v) : qtE (exN A) [i] = 0 ∧ qtD (exN A) [i] false = exS A i := qt_0 (vE1 (exN_ok hok h12 h0 h1)) (show Wth A.v [i] from wth1 hok h12 h0 h1)
theorem ex_fa {A : Dg} {i : Int} (hok : dOk A) (h12 : A.v ≤ 12) (h0 : 0 ≤ i) (h1 : i < A.v) : qtE A [i] = 0 ∧ qtD A [i] true = exF A i := qt_0 (vE1 hok) (wth1 hok h12 h0 h1)
theorem exS_ok {A : Dg} {i : Int} (hok : dOk A) (h12 : A.v ≤ 12) (_h0 : 0 ≤ i) (_h1 : i < A.v) : dOk (exS A i) := fD_ok hok.1.1 h12 _
theorem ex_n2 {A : Dg} {i : Int} (hok : dOk A) (h12 : A.v ≤ 12) (h0 : 0 ≤ i) (h1 : i < A.v) : vE [exS A i] = 0 ∧ cbD [exS A i] notF = exF A i := by
  have hs := exS_ok hok h12 h0 h1
  refine ⟨vE1 hs, ?_⟩
  rw [cbD_0 (vE1 hs)]
  refine (not_fD _).trans ?_
  have hd : Dep A.v (gA (exN A)) := gA_dep (exN_ok hok h12 h0 h1)
  have hg : gA (exS A i) = qgs (gA (exN A)) [i] false 1 := gA_fD hok.1.1 (hd.qgs 1)
  show fD A.v (fun e => !gA (exS A i) e) = fD A.v (qgs (gA A) [i] true 1)
  refine fD_congr fun e => ?_
  rw [hg, exN_gA hok h12 h0 h1]
  show (!((!gA A (up e i false)) || (!gA A (up e i true)))) = (gA A (up e i false) && gA A (up e i true))
  cases gA A (up e i false) <;> cases gA A (up e i true) <;> rfl
theorem cnN_tbl {A : Dg} (hok : dOk A) : cnN A = trues (tbl A.v (gA A)) := by
  have f := hok.2.2.1.1
  have hr := hok.2.2.1.rf
  have hn := f.lev_nn hok.1.1 hr
  have t := ct_tab f A.v.toNat 0 A.r (fun _ => false) hr (by have := hok.1.1; omega) hn
  rw [tab_tbl hok.1.1, Int.sub_zero] at t
  rw [cnN_0 (vE1 hok)]
  exact t.symm
theorem trues_not  {α : Type} (f : α → Bool) : ∀ L : List α, trues (L.map f) + trues (L.map fun x => !f x) = L.length
  | [] => rfl
  | x :: L => by
    have := trues_not f L
    show (if f x then 1 else 0) + trues (L.map f) + ((if !f x then 1 else 0) + trues (L.map fun x => !f x)) = ((L.length + 1 : Nat) : Int)
    cases f x <;> simp <;> omega
theorem ex_cnt {A : Dg} {i : Int} (hok : dOk A) (h12 : A.v ≤ 12) (h0 : 0 ≤ i) (h1 : i < A.v) : cnN A + cnN (exN A) = 2 ^ A.v.toNat := by
  rw [cnN_tbl hok, cnN_tbl (exN_ok hok h12 h0 h1), exN_gA hok h12 h0 h1]
  have := trues_not (fun k : Nat => gA A (asg A.v k)) (List.range (2 ^ A.v.toNat))
  rw [List.length_range, pow_int] at this
  exact this
theorem cnN_nn {A : Dg} (hok : dOk A) : 0 ≤ cnN A := by rw [cnN_tbl hok]; exact (trues_bd _).1
end Go.Proofs.Ytgehdgeiikjohaa
