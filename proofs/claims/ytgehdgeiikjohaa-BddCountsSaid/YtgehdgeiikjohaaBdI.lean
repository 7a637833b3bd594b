/- The diagram of a function: what the program's and the model's answers have in common. No program in sight. -/
import Derived.Test.YtgehdgeiikjohaaWd
namespace Go.Proofs.Ytgehdgeiikjohaa
open Go Go.Vc
open Classical
/-- The canonical diagram of a function. -/
def fD (vars : Int) (g : (Int → Bool) → Bool) : Dg := ⟨vars, (cF vars g).1, (cF vars g).2⟩
/-- The function of a diagram. -/
def gA (A : Dg) : (Int → Bool) → Bool := fun e => vl A.N e A.r
theorem bld_fD {vars : Int} (h : 0 ≤ vars) (g : (Int → Bool) → Bool) : bldD vars (tbl vars g) = fD vars g := bldD_tbl h g
theorem fD_ok {vars : Int} (h0 : 0 ≤ vars) (h12 : vars ≤ 12) (g : (Int → Bool) → Bool) : dOk (fD vars g) := cF_ok h0 (by omega) g (by
  have := cF_len vars g
  have : 2 ^ vars.toNat ≤ 2 ^ 12 := Nat.pow_le_pow_right (by omega) (by omega)
  omega)
theorem gA_dep {A : Dg} (h : dOk A) : Dep A.v (gA A) := vl_dep h.2.2.1.1 h.1.1 h.2.2.1.rf
theorem ok_fD {A : Dg} (h : dOk A) : fD A.v (gA A) = A := by
  have hc := lay_cF h.2.2.1.1 h.2.2.1.rf h.1.1
  unfold fD gA
  rw [← hc]
  exact dg_ext rfl h.2.2.2.1 h.2.2.2.2
/-- A function that looks at the variables alone is given by its table. -/
theorem dep_tbl {vars : Int} {g g' : (Int → Bool) → Bool} (h0 : 0 ≤ vars) (hg : Dep vars g) (hg' : Dep vars g') (h : tbl vars g = tbl vars g') : g = g' := by
  funext e
  have hl : (((List.range vars.toNat).map (fun j : Nat => e (j : Int))).length : Int) = vars := by simp; omega
  have hb := nm_bd ((List.range vars.toNat).map (fun j : Nat => e (j : Int))) ((List.range vars.toNat).map (fun j : Nat => e (j : Int))).length
  have ha := asg_nm hl
  generalize hk : nm_ ((List.range vars.toNat).map (fun j : Nat => e (j : Int))) ((List.range vars.toNat).map (fun j : Nat => e (j : Int))).length = k at hb ha
  have hlen : ((List.range vars.toNat).map (fun j : Nat => e (j : Int))).length = vars.toNat := by simp
  rw [hlen] at hb
  have he : ∀ i : Int, 0 ≤ i → i < vars → e i = asg vars k i := fun i i0 i1 => by
    rw [ha]
    show e i = decide _
    rw [gb_map_range _ _ _ i0 (by omega), Int.toNat_of_nonneg i0]
    cases e i
    · exact (decide_eq_false (by simp)).symm
    · exact (decide_eq_true ⟨i0, i1, rfl⟩).symm
  have e1 := tbl_get (g := g) hb.1 hb.2
  have e2 := tbl_get (g := g') hb.1 hb.2
  rw [h] at e1
  rw [hg e _ he, hg' e _ he, ← e1, ← e2]
theorem gA_fD {vars : Int} (h0 : 0 ≤ vars) {g : (Int → Bool) → Bool} (hg : Dep vars g) : gA (fD vars g) = g := by
  refine dep_tbl h0 (vl_dep (cF_form h0 g).1 h0 (cF_form h0 g).rf) hg ?_
  rw [← tab_tbl h0, ← tab_tbl h0]
  exact cF_tab h0 g _
theorem rsD_fD (A : Dg) (i : Int) (b : Bool) : rsD A i b = fD A.v (fun e => gA A (up e i b)) := rfl
theorem gA_rsD {A : Dg} (h : dOk A) (i : Int) (b : Bool) : gA (rsD A i b) = fun e => gA A (up e i b) := gA_fD h.1.1 (gA_dep h).up
theorem rsD_ok {A : Dg} (h : dOk A) (h12 : A.v ≤ 12) (i : Int) (b : Bool) : dOk (rsD A i b) := fD_ok h.1.1 h12 _
/- tables of any kind -/
theorem prt_okT {vars : Int} {t : List Bool} (h0 : 0 ≤ vars) (hl : t.length = 2 ^ vars.toNat) : PrtOk vars [] vars.toNat 0 t (prt vars.toNat [] 0 t) := prt_ok _ _ _ _ fm_nil (by omega) (by omega) hl
theorem lay_prt {vars : Int} {t : List Bool} (h0 : 0 ≤ vars) (hl : t.length = 2 ^ vars.toNat) : layF (prt vars.toNat [] 0 t).1 (prt vars.toNat [] 0 t).2 = prt vars.toNat [] 0 t := by
  have p := prt_okT h0 hl
  have := lay_cF p.fm p.rf h0
  unfold cF at this
  rw [p.tb] at this
  exact this
theorem bld_ok {vars : Int} {t : List Bool} (h0 : 0 ≤ vars) (h12 : vars ≤ 12) (hl : t.length = 2 ^ vars.toNat) : dOk (bldD vars t) := by
  have p := prt_okT h0 hl
  have q := lay_prt h0 hl
  have hn := (prt_len vars.toNat [] 0 t).2
  have h12' : 2 ^ vars.toNat ≤ 2 ^ 12 := Nat.pow_le_pow_right (by omega) (by omega)
  have hn : (prt vars.toNat [] 0 t).1.length + 1 ≤ 0 + 2 ^ vars.toNat := hn
  have hr := p.rf
  refine ⟨⟨h0, by show vars ≤ 40; omega⟩, by show (prt vars.toNat [] 0 t).1.length ≤ 4096; omega, ⟨p.fm, hr.1, ?_⟩, ?_, ?_⟩
  · have := hr.2
    show (prt vars.toNat [] 0 t).2 ≤ 1 + ((prt vars.toNat [] 0 t).1.length : Int); omega
  · show (layF (prt vars.toNat [] 0 t).1 (prt vars.toNat [] 0 t).2).1 = _; rw [q]; rfl
  · show (layF (prt vars.toNat [] 0 t).1 (prt vars.toNat [] 0 t).2).2 = _; rw [q]; rfl
theorem tbD_bld {vars : Int} {t : List Bool} (h0 : 0 ≤ vars) (hl : t.length = 2 ^ vars.toNat) : tbD (bldD vars t) = t := by
  have p := prt_okT h0 hl
  have := p.tb (fun _ => false)
  rw [tab_tbl h0] at this
  exact this
/- the walk of a table -/
theorem tab_fol {vars r v : Int} {N : List Fk} {e : Int → Bool} {m : Nat} (f : Fm vars N) (hr : Rf N r) (hv : v < vars) : tab (fun e => vl N e r) (m + 1) v e = tab (fun e => vl N e (fol vars N r v False)) m (v + 1) (up e v false) ++ tab (fun e => vl N e (fol vars N r v True)) m (v + 1) (up e v true) := by
  show tab (fun e => vl N e r) m (v + 1) (up e v false) ++ tab (fun e => vl N e r) m (v + 1) (up e v true) = _
  rw [tab_congr (f := fun e => vl N e r) (g := fun e => vl N e (fol vars N r v False)) m (v + 1) (up e v false) fun e' he => (fol_vl f hr hv e' (by rw [he v (by omega), up_same]; simp)).symm,
    tab_congr (f := fun e => vl N e r) (g := fun e => vl N e (fol vars N r v True)) m (v + 1) (up e v true) fun e' he => (fol_vl f hr hv e' (by rw [he v (by omega), up_same]; simp)).symm]
theorem tab_leaf {r v : Int} {N : List Fk} {e : Int → Bool} (hr : r < 2) : tab (fun e => vl N e r) 0 v e = [decide (r = 1)] := by
  show [vl N e r] = _
  rw [vl_const hr]
/- answers -/
noncomputable def tbE (A : Dg) : Int := if chkC A.v A.N A.r ≠ 0 then 1 else if 12 < A.v then 4 else 0
noncomputable def tbT (A : Dg) : List Bool := if tbE A = 0 then tbD A else []
theorem tb_1 {A : Dg} (h : chkC A.v A.N A.r ≠ 0) : tbE A = 1 ∧ tbT A = [] := by
  have e : tbE A = 1 := if_pos h
  exact ⟨e, by unfold tbT; rw [if_neg (by omega)]⟩
theorem tb_4 {A : Dg} (h : chkC A.v A.N A.r = 0) (h2 : 12 < A.v) : tbE A = 4 ∧ tbT A = [] := by
  have e : tbE A = 4 := by unfold tbE; rw [if_neg (by omega), if_pos h2]
  exact ⟨e, by unfold tbT; rw [if_neg (by omega)]⟩
theorem tb_0 {A : Dg} (h : chkC A.v A.N A.r = 0) (h2 : ¬ 12 < A.v) : tbE A = 0 ∧ tbT A = tbD A := by
  have e : tbE A = 0 := by unfold tbE; rw [if_neg (by omega), if_neg h2]
  exact ⟨e, by unfold tbT; rw [if_pos e]⟩
noncomputable def ftE (vars : Int) (t : List Bool) : Int := if vars < 0 ∨ 12 < vars then 3 else if t.length ≠ 2 ^ vars.toNat then 2 else 0
noncomputable def ftD (vars : Int) (t : List Bool) : Dg := if ftE vars t = 0 then bldD vars t else dg0
theorem ft_3 {vars : Int} {t : List Bool} (h : vars < 0 ∨ 12 < vars) : ftE vars t = 3 ∧ ftD vars t = dg0 := by
  have e : ftE vars t = 3 := if_pos h
  exact ⟨e, by unfold ftD; rw [if_neg (by omega)]⟩
theorem pow_int (n : Nat) : ((2 ^ n : Nat) : Int) = (2 : Int) ^ n := by simp
theorem ft_2 {vars : Int} {t : List Bool} (h : ¬ (vars < 0 ∨ 12 < vars)) (h2 : (t.length : Int) ≠ 2 ^ vars.toNat) : ftE vars t = 2 ∧ ftD vars t = dg0 := by
  have e : ftE vars t = 2 := by
    unfold ftE
    rw [if_neg h, if_pos]
    intro q
    rw [q, pow_int] at h2
    exact h2 rfl
  exact ⟨e, by unfold ftD; rw [if_neg (by omega)]⟩
theorem ft_len {vars : Int} {t : List Bool} (h2 : (t.length : Int) = 2 ^ vars.toNat) : t.length = 2 ^ vars.toNat := by
  rw [← pow_int] at h2
  omega
theorem ft_0 {vars : Int} {t : List Bool} (h : ¬ (vars < 0 ∨ 12 < vars)) (h2 : (t.length : Int) = 2 ^ vars.toNat) : ftE vars t = 0 ∧ ftD vars t = bldD vars t := by
  have e : ftE vars t = 0 := by
    unfold ftE
    rw [if_neg h, if_neg (by rw [ft_len h2]; simp)]
  exact ⟨e, by unfold ftD; rw [if_pos e]⟩
noncomputable def evE (A : Dg) (L : List Bool) : Int := if vE [A] ≠ 0 then vE [A] else if (L.length : Int) ≠ A.v then 2 else 0
noncomputable def evB (A : Dg) (L : List Bool) : Bool := if evE A L = 0 then gA A (fun i => gb L i) else false
theorem ev_v {A : Dg} {L : List Bool} (h : vE [A] ≠ 0) : evE A L = vE [A] ∧ evB A L = false := by
  have e : evE A L = vE [A] := if_pos h
  exact ⟨e, by unfold evB; rw [if_neg (by omega)]⟩
theorem ev_2 {A : Dg} {L : List Bool} (h : vE [A] = 0) (h2 : (L.length : Int) ≠ A.v) : evE A L = 2 ∧ evB A L = false := by
  have e : evE A L = 2 := by unfold evE; rw [if_neg (by omega), if_pos h2]
  exact ⟨e, by unfold evB; rw [if_neg (by omega)]⟩
theorem ev_0 {A : Dg} {L : List Bool} (h : vE [A] = 0) (h2 : (L.length : Int) = A.v) : evE A L = 0 ∧ evB A L = gA A (fun i => gb L i) := by
  have e : evE A L = 0 := by unfold evE; rw [if_neg (by omega), if_neg (by omega)]
  exact ⟨e, by unfold evB; rw [if_pos e]⟩
/- quantifying -/
def qF (al : Bool) (a b _c : Bool) : Bool := if al then a && b else a || b
def Wth (vars : Int) (l : List Int) : Prop := ∀ j : Int, 0 ≤ j → j < l.length → 0 ≤ gi l j ∧ gi l j < vars
noncomputable def qtE (A : Dg) (l : List Int) : Int := if vE [A] ≠ 0 then vE [A] else if ¬ Wth A.v l then 3 else 0
noncomputable def qtD (A : Dg) (l : List Int) (al : Bool) : Dg := if qtE A l = 0 then fD A.v (qgs (gA A) l al l.length) else dg0
theorem qt_v {A : Dg} {l : List Int} {al : Bool} (h : vE [A] ≠ 0) : qtE A l = vE [A] ∧ qtD A l al = dg0 := by
  have e : qtE A l = vE [A] := if_pos h
  exact ⟨e, by unfold qtD; rw [if_neg (by omega)]⟩
theorem qt_3 {A : Dg} {l : List Int} {al : Bool} (h : vE [A] = 0) (h2 : ¬ Wth A.v l) : qtE A l = 3 ∧ qtD A l al = dg0 := by
  have e : qtE A l = 3 := by unfold qtE; rw [if_neg (by omega), if_pos h2]
  exact ⟨e, by unfold qtD; rw [if_neg (by omega)]⟩
theorem qt_0 {A : Dg} {l : List Int} {al : Bool} (h : vE [A] = 0) (h2 : Wth A.v l) : qtE A l = 0 ∧ qtD A l al = fD A.v (qgs (gA A) l al l.length) := by
  have e : qtE A l = 0 := by unfold qtE; rw [if_neg (by omega), if_neg (fun q => q h2)]
  exact ⟨e, by unfold qtD; rw [if_pos e]⟩
/-- The combination of the two restrictions. -/
theorem cmb_two {vars : Int} {X Y : Dg} {F : Bool → Bool → Bool → Bool} {F2 : Bool → Bool → Bool} (hF : ∀ a b c, F a b c = F2 a b) : cmb vars [X, Y] F = cF vars (fun e => F2 (gA X e) (gA Y e)) := by
  unfold cmb
  congr 1
  funext e
  show F (gA X e) (gA Y e) _ = _
  rw [hF]
theorem cmb_three {vars : Int} {X Y Z : Dg} {F : Bool → Bool → Bool → Bool} : cmb vars [X, Y, Z] F = cF vars (fun e => F (gA X e) (gA Y e) (gA Z e)) := rfl
theorem q_step {A : Dg} {l : List Int} {al : Bool} {n : Int} {F : Bool → Bool → Bool → Bool} (hok : dOk A) (h12 : A.v ≤ 12) (hF : ∀ a b c, F a b c = qF al a b c) (h0 : 0 ≤ n) :
    cmb A.v [rsD (fD A.v (qgs (gA A) l al n.toNat)) (gi l n) false, rsD (fD A.v (qgs (gA A) l al n.toNat)) (gi l n) true] F = cF A.v (qgs (gA A) l al (n + 1).toNat) := by
  have hd : Dep A.v (qgs (gA A) l al n.toNat) := (gA_dep hok).qgs _
  have hq := fD_ok hok.1.1 h12 (qgs (gA A) l al n.toNat)
  rw [cmb_two (F2 := fun a b => if al then a && b else a || b) (fun a b c => hF a b c), gA_rsD hq, gA_rsD hq, gA_fD hok.1.1 hd, qgs_step h0]
theorem vE_rs {A : Dg} {i : Int} (hok : dOk A) (h12 : A.v ≤ 12) : vE [rsD A i false, rsD A i true] = 0 := vE2 (rsD_ok hok h12 i false) (rsD_ok hok h12 i true) rfl
/- composition -/
noncomputable def cpE (A B : Dg) (i : Int) : Int := if vE [A, B] ≠ 0 then vE [A, B] else if i < 0 ∨ A.v ≤ i then 3 else 0
noncomputable def cpD (A B : Dg) (i : Int) : Dg := if cpE A B i = 0 then fD A.v (fun e => iteF (gA B e) (gA A (up e i true)) (gA A (up e i false))) else dg0
theorem cp_v {A B : Dg} {i : Int} (h : vE [A, B] ≠ 0) : cpE A B i = vE [A, B] ∧ cpD A B i = dg0 := by
  have e : cpE A B i = vE [A, B] := if_pos h
  exact ⟨e, by unfold cpD; rw [if_neg (by omega)]⟩
theorem cp_3 {A B : Dg} {i : Int} (h : vE [A, B] = 0) (h2 : i < 0 ∨ A.v ≤ i) : cpE A B i = 3 ∧ cpD A B i = dg0 := by
  have e : cpE A B i = 3 := by unfold cpE; rw [if_neg (by omega), if_pos h2]
  exact ⟨e, by unfold cpD; rw [if_neg (by omega)]⟩
theorem cp_0 {A B : Dg} {i : Int} (h : vE [A, B] = 0) (h2 : ¬ (i < 0 ∨ A.v ≤ i)) : cpE A B i = 0 ∧ cpD A B i = fD A.v (fun e => iteF (gA B e) (gA A (up e i true)) (gA A (up e i false))) := by
  have e : cpE A B i = 0 := by unfold cpE; rw [if_neg (by omega), if_neg h2]
  exact ⟨e, by unfold cpD; rw [if_pos e]⟩
theorem ok2 {A B : Dg} (h : vE [A, B] = 0) : dOk A ∧ dOk B ∧ B.v = A.v := by
  obtain ⟨a, b⟩ := vE_ok.1 h
  exact ⟨a 0 (by omega) (by show (0 : Int) < ((2 : Nat) : Int); omega), a 1 (by omega) (by show (1 : Int) < ((2 : Nat) : Int); omega), b 1 (by omega) (by show (1 : Int) < ((2 : Nat) : Int); omega)⟩
theorem cmb_comp {A B : Dg} {i : Int} (hA : dOk A) : cmb A.v [B, rsD A i true, rsD A i false] iteF = cF A.v (fun e => iteF (gA B e) (gA A (up e i true)) (gA A (up e i false))) := by
  rw [cmb_three, gA_rsD hA, gA_rsD hA]
theorem comp_cmb {A B : Dg} {i : Int} (h : vE [A, B] = 0) (h12 : A.v ≤ 12) : Cmb A.v [B, rsD A i true, rsD A i false] := by
  obtain ⟨a, b, c⟩ := ok2 h
  have h0 : vE [B, rsD A i true, rsD A i false] = 0 := vE_0 (fun j h0 h1 => by
    have h1 : j < ((3 : Nat) : Int) := h1
    rcases (show j = 0 ∨ j = 1 ∨ j = 2 by omega) with rfl | rfl | rfl
    · exact b
    · exact rsD_ok a h12 i true
    · exact rsD_ok a h12 i false) (fun j h0 h1 => by
    have h1 : j < ((3 : Nat) : Int) := h1
    rcases (show j = 0 ∨ j = 1 ∨ j = 2 by omega) with rfl | rfl | rfl
    · rfl
    · exact c.symm
    · exact c.symm)
  have := cmb_of (Ds := [B, rsD A i true, rsD A i false]) (by show 1 ≤ 3; omega) (by show 3 ≤ 3; omega) h0
  rw [show (dg [B, rsD A i true, rsD A i false] 0).v = B.v from rfl, c] at this
  exact this
end Go.Proofs.Ytgehdgeiikjohaa
