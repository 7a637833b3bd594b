/- The least assignment with the value true, and the variables that a diagram looks at. No program in sight. -/
import Derived.Test.YtgehdgeiikjohaaBdJ
namespace Go.Proofs.Ytgehdgeiikjohaa
open Go Go.Vc
open Classical
/-- The least assignment with the value true. -/
def fpF (N : List Fk) : Nat → Int → Int → Bool
  | 0, _, _ => false
  | k + 1, r, j => if r < 2 then false else if j = (nd N r).v then decide ((nd N r).l = 0) else fpF N k (if (nd N r).l = 0 then (nd N r).h else (nd N r).l) j
def fp (N : List Fk) (r j : Int) : Bool := fpF N N.length r j
theorem fpF_const {N : List Fk} {r j : Int} (h : r < 2) : ∀ k, fpF N k r j = false
  | 0 => rfl
  | k + 1 => if_pos h
theorem fpF_fuel {vars : Int} {N : List Fk} (f : Fm vars N) (i : Int) : ∀ (k j : Nat) (r : Int), Rf N r → r ≤ k + 1 → r ≤ j + 1 → fpF N k r i = fpF N j r i
  | k, j, r, h, hk, hj => by
    by_cases h2 : r < 2
    · rw [fpF_const h2, fpF_const h2]
    · obtain ⟨k, rfl⟩ : ∃ q, k = q + 1 := ⟨k - 1, by omega⟩
      obtain ⟨j, rfl⟩ : ∃ q, j = q + 1 := ⟨j - 1, by omega⟩
      have h3 := h.2
      have hlo := f.lo r (by omega) h.2
      have hhi := f.hi r (by omega) h.2
      show (if r < 2 then false else if i = (nd N r).v then decide ((nd N r).l = 0) else fpF N k (if (nd N r).l = 0 then (nd N r).h else (nd N r).l) i) = (if r < 2 then false else if i = (nd N r).v then decide ((nd N r).l = 0) else fpF N j (if (nd N r).l = 0 then (nd N r).h else (nd N r).l) i)
      rw [fpF_fuel f i k j _ ?_ ?_ ?_]
      · unfold Rf; split <;> omega
      · split <;> omega
      · split <;> omega
  termination_by k => k
theorem fp_const {N : List Fk} {r j : Int} (h : r < 2) : fp N r j = false := fpF_const h _
/-- The reference that the least assignment follows. -/
def fc (N : List Fk) (r : Int) : Int := if (nd N r).l = 0 then (nd N r).h else (nd N r).l
theorem fc_rf {vars r : Int} {N : List Fk} (f : Fm vars N) (h2 : 2 ≤ r) (h : r < 2 + N.length) : Rf N (fc N r) ∧ fc N r < r ∧ (nd N r).v < lev vars N (fc N r) ∧ fc N r ≠ 0 := by
  have hlo := f.lo r h2 h
  have hhi := f.hi r h2 h
  have hne := f.ne r h2 h
  unfold fc
  split
  · rename_i e; exact ⟨⟨hhi.1, by omega⟩, hhi.2.1, hhi.2.2, fun q => hne (by rw [e, q])⟩
  · rename_i e; exact ⟨⟨hlo.1, by omega⟩, hlo.2.1, hlo.2.2, e⟩
theorem fp_step {vars r j : Int} {N : List Fk} (f : Fm vars N) (h2 : 2 ≤ r) (h : r < 2 + N.length) : fp N r j = if j = (nd N r).v then decide ((nd N r).l = 0) else fp N (fc N r) j := by
  have hl : N.length = (N.length - 1) + 1 := by omega
  have hc := fc_rf f h2 h
  have e := fpF_fuel f j N.length (N.length - 1) (fc N r) hc.1 (by have := hc.1.2; omega) (by omega)
  show fpF N N.length r j = _
  unfold fp
  rw [e]
  rw [show fpF N N.length r j = fpF N ((N.length - 1) + 1) r j by rw [← hl]]
  show (if r < 2 then false else if j = (nd N r).v then decide ((nd N r).l = 0) else fpF N (N.length - 1) (fc N r) j) = _
  rw [if_neg (by omega)]
theorem fp_low {vars : Int} {N : List Fk} (f : Fm vars N) : ∀ (k : Nat) (r j : Int), Rf N r → r ≤ k → j < lev vars N r → fp N r j = false
  | 0, r, j, h, hk, hj => fp_const (by omega)
  | k + 1, r, j, h, hk, hj => by
    by_cases h2 : r < 2
    · exact fp_const h2
    · have hc := fc_rf f (by omega) h.2
      rw [lev_node h2] at hj
      rw [fp_step f (by omega) h.2, if_neg (by omega)]
      exact fp_low f k _ j hc.1 (by omega) (by omega)
theorem fp_vl {vars : Int} {N : List Fk} (f : Fm vars N) : ∀ (k : Nat) (r : Int), Rf N r → r ≤ k → r ≠ 0 → vl N (fp N r) r = true
  | 0, r, h, hk, h0 => by have := h.1; omega
  | k + 1, r, h, hk, h0 => by
    have hr0 := h.1
    by_cases h2 : r < 2
    · rw [vl_const h2]; exact decide_eq_true (by omega)
    · have hc := fc_rf f (by omega) h.2
      have ih := fp_vl f k (fc N r) hc.1 (by omega) hc.2.2.2
      have hv := f.vr r (by omega) h.2
      rw [vl_step f (by omega) h.2]
      have e : (if fp N r (nd N r).v then (nd N r).h else (nd N r).l) = fc N r := by
        rw [fp_step f (by omega) h.2, if_pos rfl]
        unfold fc
        by_cases q : (nd N r).l = 0
        · rw [if_pos (decide_eq_true q), if_pos q]
        · rw [if_neg (by simp [q]), if_neg q]
      rw [e, ← ih]
      refine vl_congr f (fc N r).toNat (fc N r) hc.1 (by have := hc.1.1; omega) fun i hi hi2 => ?_
      rw [fp_step f (by omega) h.2, if_neg (by omega)]
/- numbers of assignments -/
def nv (e : Int → Bool) : Nat → Int → Int
  | 0, _ => 0
  | m + 1, v => (if e v then 2 ^ m else 0) + nv e m (v + 1)
theorem nv_bd (e : Int → Bool) : ∀ (m : Nat) (v : Int), 0 ≤ nv e m v ∧ nv e m v < 2 ^ m
  | 0, v => ⟨Int.le_refl _, by show (0 : Int) < 1; omega⟩
  | m + 1, v => by
    have := nv_bd e m (v + 1)
    have hp : (2 : Int) ^ (m + 1) = 2 ^ m + 2 ^ m := by rw [Int.pow_succ]; omega
    show 0 ≤ (if e v then 2 ^ m else 0) + nv e m (v + 1) ∧ (if e v then 2 ^ m else 0) + nv e m (v + 1) < 2 ^ (m + 1)
    split <;> omega
theorem nv_congr {e e' : Int → Bool} : ∀ (m : Nat) (v : Int), (∀ i, v ≤ i → i < v + m → e i = e' i) → nv e m v = nv e' m v
  | 0, v, h => rfl
  | m + 1, v, h => by
    show (if e v then (2 : Int) ^ m else 0) + nv e m (v + 1) = (if e' v then 2 ^ m else 0) + nv e' m (v + 1)
    rw [h v (by omega) (by omega), nv_congr m (v + 1) fun i i0 i1 => h i (by omega) (by omega)]
/-- No assignment with the value true comes before. -/
theorem fp_least {vars : Int} {N : List Fk} (f : Fm vars N) : ∀ (m : Nat) (v r : Int) (e : Int → Bool), v = vars - m → Rf N r → v ≤ lev vars N r → vl N e r = true → nv (fp N r) m v ≤ nv e m v
  | 0, v, r, e, hv, hr, hl, ht => Int.le_refl _
  | m + 1, v, r, e, hv, hr, hl, ht => by
    have hr0 := hr.1
    show (if fp N r v then (2 : Int) ^ m else 0) + nv (fp N r) m (v + 1) ≤ (if e v then 2 ^ m else 0) + nv e m (v + 1)
    have hp := pow2_pos m
    by_cases hlt : v < lev vars N r
    · have ih := fp_least f m (v + 1) r e (by omega) hr (by omega) ht
      rw [fp_low f r.toNat r v hr (by omega) hlt, if_neg (by simp)]
      split <;> omega
    · have hlv : lev vars N r = v := by omega
      have h2 : 2 ≤ r := by
        refine Classical.byContradiction fun q => ?_
        rw [lev_const (by omega)] at hlv; omega
      rw [lev_node (by omega)] at hlv
      have hc := fc_rf f h2 hr.2
      have hlo := f.lo r h2 hr.2
      have hhi := f.hi r h2 hr.2
      have hr2 := hr.2
      have hcg : nv (fp N r) m (v + 1) = nv (fp N (fc N r)) m (v + 1) := nv_congr m (v + 1) fun i i0 i1 => by
        rw [fp_step f h2 hr.2, if_neg (by omega)]
      have hfv : fp N r v = decide ((nd N r).l = 0) := by rw [fp_step f h2 hr.2, if_pos hlv.symm]
      rw [vl_step f h2 hr.2, hlv] at ht
      rw [hcg, hfv]
      by_cases q : (nd N r).l = 0
      · have hfc : fc N r = (nd N r).h := if_pos q
        cases he : e v
        · rw [he, if_neg (by simp), q, vl_const (by omega)] at ht
          cases ht
        · rw [he, if_pos rfl] at ht
          have ih := fp_least f m (v + 1) (nd N r).h e (by omega) ⟨hhi.1, by omega⟩ (by omega) ht
          rw [if_pos (decide_eq_true q), if_pos rfl, hfc]
          omega
      · have hfc : fc N r = (nd N r).l := if_neg q
        rw [if_neg (by simp [q])]
        cases he : e v
        · rw [he, if_neg (by simp)] at ht
          have ih := fp_least f m (v + 1) (nd N r).l e (by omega) ⟨hlo.1, by omega⟩ (by omega) ht
          rw [if_neg (by simp), hfc]
          omega
        · have b1 := nv_bd (fp N (fc N r)) m (v + 1)
          have b2 := nv_bd e m (v + 1)
          rw [if_pos rfl]
          omega
/-- The number of the assignment with a number. -/
theorem nv_asg {vars : Int} {k : Nat} : ∀ m : Nat, (m : Int) ≤ vars → nv (asg vars k) m (vars - m) = ((k % 2 ^ m : Nat) : Int)
  | 0, h => by simp [nv, Nat.mod_one]
  | m + 1, h => by
    have ih := nv_asg (vars := vars) (k := k) m (by omega)
    show (if asg vars k (vars - ((m + 1 : Nat) : Int)) then (2 : Int) ^ m else 0) + nv (asg vars k) m (vars - ((m + 1 : Nat) : Int) + 1) = _
    rw [show vars - ((m + 1 : Nat) : Int) + 1 = vars - (m : Int) by omega, ih, asg_in (by omega) (by omega), show (vars - 1 - (vars - ((m + 1 : Nat) : Int))).toNat = m by omega]
    have e1 : (k : Int) / 2 ^ m % 2 = ((k / 2 ^ m % 2 : Nat) : Int) := by simp
    rw [e1, Nat.pow_succ, Nat.mod_mul]
    have hb : k / 2 ^ m % 2 < 2 := Nat.mod_lt _ (by omega)
    rcases (show k / 2 ^ m % 2 = 0 ∨ k / 2 ^ m % 2 = 1 by omega) with z | z
    · rw [z]; simp
    · rw [z]; simp; omega
theorem nv_num {vars k : Int} (hv : 0 ≤ vars) (h0 : 0 ≤ k) (h1 : k < 2 ^ vars.toNat) : nv (asg vars k) vars.toNat 0 = k := by
  obtain ⟨n, rfl⟩ : ∃ n : Nat, k = n := ⟨k.toNat, by omega⟩
  have := nv_asg (vars := vars) (k := n) vars.toNat (by omega)
  rw [show vars - (vars.toNat : Int) = 0 by omega] at this
  rw [this, Nat.mod_eq_of_lt]
  have e : ((2 ^ vars.toNat : Nat) : Int) = 2 ^ vars.toNat := by simp
  omega
def fpL (A : Dg) : List Bool := (List.range A.v.toNat).map (fun j : Nat => fp A.N A.r (j : Int))
theorem fpL_gb {A : Dg} {i : Int} (h0 : 0 ≤ i) (h1 : i < A.v) : gb (fpL A) i = fp A.N A.r i := by
  unfold fpL
  rw [gb_map_range _ _ _ h0 (by omega), Int.toNat_of_nonneg h0]
/-- The first true entry of a table belongs to the least assignment. -/
theorem fp_first {A : Dg} (h : dOk A) {k : Int} (k0 : 0 ≤ k) (k1 : k < 2 ^ A.v.toNat) (ht : gA A (asg A.v k) = true) (hf : ∀ j : Int, 0 ≤ j → j < k → ¬ gA A (asg A.v j) = true) : asL A.v k = fpL A := by
  have f := h.2.2.1.1
  have hr := h.2.2.1.rf
  have hv := h.1.1
  have hl : ((fpL A).length : Int) = A.v := by unfold fpL; simp; omega
  have hlen : (fpL A).length = A.v.toNat := by omega
  have hb := nm_bd (fpL A) (fpL A).length
  have ha := asg_nm hl
  generalize hk : nm_ (fpL A) (fpL A).length = q at hb ha
  rw [hlen] at hb
  have he : ∀ i : Int, 0 ≤ i → i < A.v → asg A.v q i = fp A.N A.r i := fun i i0 i1 => by
    rw [ha]
    show decide _ = _
    rw [fpL_gb i0 i1]
    cases fp A.N A.r i
    · exact decide_eq_false (by simp)
    · exact decide_eq_true ⟨i0, i1, rfl⟩
  have hne : A.r ≠ 0 := fun e => by
    have : gA A (asg A.v k) = false := by
      show vl A.N _ A.r = false
      rw [e]; exact vl_const (by omega)
    rw [this] at ht; cases ht
  have hq : gA A (asg A.v q) = true := by
    rw [gA_dep h _ (fp A.N A.r) he]
    exact fp_vl f A.r.toNat A.r hr (by have := hr.1; omega) hne
  have hn : nv (fp A.N A.r) A.v.toNat 0 = q := by
    rw [← nv_congr A.v.toNat 0 fun i i0 i1 => he i i0 (by omega)]
    exact nv_num hv hb.1 hb.2
  have hle := fp_least f A.v.toNat 0 A.r (asg A.v k) (by omega) hr (f.lev_nn hv hr) ht
  rw [hn, nv_num hv k0 k1] at hle
  have hkq : k = q := by
    by_cases c : q < k
    · exact absurd hq (hf q hb.1 c)
    · omega
  subst hkq
  unfold asL fpL
  exact List.map_congr_left fun j hj => he j (by omega) (by have := List.mem_range.1 hj; omega)
/- diagrams that look at a variable -/
/-- References of equal functions are equal. -/
theorem rf_inj {vars r s : Int} {N : List Fk} (f : Fm vars N) (hv : 0 ≤ vars) (hr : Rf N r) (hs : Rf N s) (h : ∀ e, vl N e r = vl N e s) : r = s := by
  have VA := vis_ok f (r.toNat + 1) r ([], pl0) hr (by have := hr.1; omega) (lyI0 N)
  generalize vis N (r.toNat + 1) r ([], pl0) = x at VA
  have VB := vis_ok f (s.toNat + 1) s x.1 hs (by have := hs.1; omega) VA.inv
  have A := canon f vars.toNat 0 r x.1 (fun _ => false) (r.toNat + 1) VA.inv hr (by omega) (f.lev_nn hv hr) (by have := hr.1; omega)
  have B := canon f vars.toNat 0 s x.1 (fun _ => false) (s.toNat + 1) VA.inv hs (by omega) (f.lev_nn hv hs) (by have := hs.1; omega)
  rw [vis_hit VA.at_] at A
  rw [show (fun e => vl N e r) = fun e => vl N e s from funext h, B] at A
  simp only [Prod.mk.injEq] at A
  have h1 := VB.ext _ _ VA.at_
  have h2 := VB.at_
  rw [A.2] at h2
  exact VB.inv.inj _ _ _ h1 h2
theorem tab_eq {g g' : (Int → Bool) → Bool} : ∀ (m : Nat) (v : Int) (e : Int → Bool), tab g m v e = tab g' m v e → ∀ e', (∀ i, i < v → e' i = e i) → (∀ i, v + m ≤ i → e' i = e i) → g e' = g' e'
  | 0, v, e, h, e', h1, h2 => by
    have : e' = e := funext fun i => by
      by_cases q : i < v
      · exact h1 i q
      · exact h2 i (by omega)
    have h : [g e] = [g' e] := h
    rw [this]
    simpa using h
  | m + 1, v, e, h, e', h1, h2 => by
    have h : tab g m (v + 1) (up e v false) ++ tab g m (v + 1) (up e v true) = tab g' m (v + 1) (up e v false) ++ tab g' m (v + 1) (up e v true) := h
    obtain ⟨ha, hb⟩ := List.append_inj h (by rw [tab_len, tab_len])
    have hc : tab g m (v + 1) (up e v (e' v)) = tab g' m (v + 1) (up e v (e' v)) := by
      cases e' v
      · exact ha
      · exact hb
    refine tab_eq m (v + 1) (up e v (e' v)) hc e' (fun i hi => ?_) fun i hi => ?_
    · unfold up
      by_cases q : i = v
      · rw [if_pos q, q]
      · rw [if_neg q]; exact h1 i (by omega)
    · unfold up
      rw [if_neg (by omega)]; exact h2 i (by omega)
/-- g does not look at the variable i. -/
def Ind (i : Int) (g : (Int → Bool) → Bool) : Prop := ∀ e b, g (up e i b) = g e
theorem tab_ind {v : Int} {g : (Int → Bool) → Bool} (h : Ind v g) (m : Nat) (e : Int → Bool) (b : Bool) : tab g m (v + 1) (up e v b) = tab g m (v + 1) e := by
  refine ext_gb (by rw [tab_len, tab_len]) fun k k0 k1 => ?_
  rw [tab_len] at k1
  have k1 : k < 2 ^ m := by simpa using k1
  rw [tab_get g m _ _ k k0 k1, tab_get g m _ _ k k0 k1]
  rw [← h (fun i => if v + 1 ≤ i ∧ i < v + 1 + m then decide (k / 2 ^ (v + 1 + m - 1 - i).toNat % 2 = 1) else e i) b]
  congr 1; funext i
  unfold up
  by_cases q : i = v
  · rw [if_pos q, if_neg (by omega), if_pos q]
  · rw [if_neg q, if_neg q]
/-- What is built of a function has no node of a variable that it does not look at. -/
theorem prt_ind {vars i : Int} {g : (Int → Bool) → Bool} (hi : Ind i g) : ∀ (m : Nat) (O : List Fk) (v : Int) (e : Int → Bool), Fm vars O → v = vars - m → 0 ≤ v → ∀ n ∈ (prt m O v (tab g m v e)).1, n ∈ O ∨ n.v ≠ i
  | 0, O, v, e, f, hv, h0, n, hn => .inl hn
  | m + 1, O, v, e, f, hv, h0, n, hn => by
    have l1 := tab_len g m (v + 1) (up e v false)
    have l2 := tab_len g m (v + 1) (up e v true)
    have hn : n ∈ (prt (m + 1) O v (tab g m (v + 1) (up e v false) ++ tab g m (v + 1) (up e v true))).1 := hn
    rw [prt_node l1] at hn
    have PA := prt_ok (vars := vars) m O (v + 1) (tab g m (v + 1) (up e v false)) f (by omega) (by omega) l1
    have IA := prt_ind hi m O (v + 1) (up e v false) f (by omega) (by omega)
    generalize hx : prt m O (v + 1) (tab g m (v + 1) (up e v false)) = x at PA IA hn
    have PB := prt_ok (vars := vars) m x.1 (v + 1) (tab g m (v + 1) (up e v true)) PA.fm (by omega) (by omega) l2
    have IB := prt_ind hi m x.1 (v + 1) (up e v true) PA.fm (by omega) (by omega)
    generalize hy : prt m x.1 (v + 1) (tab g m (v + 1) (up e v true)) = y at PB IB hn
    have fin : n ∈ y.1 → n ∈ O ∨ n.v ≠ i := fun q => by
      rcases IB n q with z | z
      · exact IA n z
      · exact .inr z
    by_cases hvi : v = i
    · have heq : x.2 = y.2 := by
        obtain ⟨X, hX⟩ := PB.ext
        have hrx : Rf y.1 x.2 := by
          have := PA.rf
          rw [hX]
          exact ⟨this.1, by rw [List.length_append]; have := this.2; omega⟩
        refine rf_inj PB.fm (by omega) hrx PB.rf fun e' => ?_
        have ea : ∀ e', vl y.1 e' x.2 = vl x.1 e' x.2 := fun e' => by
          rw [hX]
          exact vl_append PA.fm (hX ▸ PB.fm) e' x.2.toNat x.2 PA.rf (by have := PA.rf.1; omega)
        have t1 := PA.tb e'
        have t2 := PB.tb e'
        rw [tab_ind (hvi ▸ hi) m e] at t1 t2
        have t3 : tab (fun e => vl y.1 e x.2) m (v + 1) e' = tab (fun e => vl y.1 e y.2) m (v + 1) e' := by
          rw [show (fun e => vl y.1 e x.2) = fun e => vl x.1 e x.2 from funext ea, t1, t2]
        exact tab_eq m (v + 1) e' t3 e' (fun _ _ => rfl) fun _ _ => rfl
      rw [node_eq heq] at hn
      exact fin hn
    · unfold nodeR at hn
      split at hn
      · exact fin hn
      · split at hn
        · exact fin hn
        · rcases List.mem_append.1 hn with q | q
          · exact fin q
          · rw [List.mem_singleton] at q
            subst q
            exact .inr hvi
theorem vl_ind {vars i : Int} {N : List Fk} (f : Fm vars N) (hn : ∀ n ∈ N, n.v ≠ i) (e : Int → Bool) (b : Bool) : ∀ (k : Nat) (r : Int), Rf N r → r ≤ k → vl N (up e i b) r = vl N e r
  | 0, r, h, hk => by rw [vl_const (by omega), vl_const (by omega)]
  | k + 1, r, h, hk => by
    by_cases h2 : r < 2
    · rw [vl_const h2, vl_const h2]
    · have hlo := f.lo r (by omega) h.2
      have hhi := f.hi r (by omega) h.2
      have h3 := h.2
      have hm : nd N r ∈ N := by
        unfold nd
        rw [List.getD_eq_getElem?_getD, List.getElem?_eq_getElem (by omega)]
        exact List.getElem_mem (by omega)
      rw [vl_step f (by omega) h.2, vl_step f (by omega) h.2]
      have e1 : up e i b (nd N r).v = e (nd N r).v := if_neg (hn _ hm)
      rw [e1]
      refine vl_ind f hn e b k _ ?_ ?_
      · unfold Rf; split <;> omega
      · split <;> omega
/-- A canonical diagram has nodes of exactly the variables that it looks at. -/
theorem sup_law {A : Dg} (h : dOk A) (i : Int) : (∃ n ∈ A.N, n.v = i) ↔ tbl A.v (fun e => gA A (up e i false)) ≠ tbl A.v (fun e => gA A (up e i true)) := by
  constructor
  · rintro ⟨n, hn, e⟩ ht
    have hg := dep_tbl h.1.1 (gA_dep h).up (gA_dep h).up ht
    have hi : Ind i (gA A) := fun e b => by
      have q : gA A (up e i false) = gA A (up e i true) := congrFun hg e
      have s : gA A (up e i (e i)) = gA A e := by rw [up_self]
      cases b <;> cases hb : e i <;> rw [hb] at s
      · exact s
      · rw [q]; exact s
      · rw [← q]; exact s
      · exact s
    have hc := congrArg Dg.N (ok_fD h)
    have hc : (prt A.v.toNat [] 0 (tab (gA A) A.v.toNat 0 (fun _ => false))).1 = A.N := hc
    rw [← hc] at hn
    rcases prt_ind hi A.v.toNat [] 0 (fun _ => false) (fm_nil (vars := A.v)) (by have := h.1.1; omega) (by omega) n hn with q | q
    · cases q
    · exact q e
  · intro ht
    refine Classical.byContradiction fun q => ht ?_
    have hn : ∀ n ∈ A.N, n.v ≠ i := fun n hn e => q ⟨n, hn, e⟩
    have hr := h.2.2.1.rf
    rw [show (fun e => gA A (up e i false)) = fun e => gA A (up e i true) from funext fun e => by
      show vl A.N _ A.r = vl A.N _ A.r
      rw [vl_ind h.2.2.1.1 hn e false A.r.toNat A.r hr (by have := hr.1; omega), vl_ind h.2.2.1.1 hn e true A.r.toNat A.r hr (by have := hr.1; omega)]]
/- answers of First -/
noncomputable def fiE (A : Dg) : Int := if vE [A] ≠ 0 then vE [A] else if A.r = 0 then 11 else 0
noncomputable def fiT (A : Dg) : List Bool := if fiE A = 0 then fpL A else []
theorem fi_v {A : Dg} (h : vE [A] ≠ 0) : fiE A = vE [A] ∧ fiT A = [] := by
  have e : fiE A = vE [A] := if_pos h
  exact ⟨e, by unfold fiT; rw [if_neg (by omega)]⟩
theorem fi_11 {A : Dg} (h : vE [A] = 0) (h2 : A.r = 0) : fiE A = 11 ∧ fiT A = [] := by
  have e : fiE A = 11 := by unfold fiE; rw [if_neg (by omega), if_pos h2]
  exact ⟨e, by unfold fiT; rw [if_neg (by omega)]⟩
theorem fi_0 {A : Dg} (h : vE [A] = 0) (h2 : A.r ≠ 0) : fiE A = 0 ∧ fiT A = fpL A := by
  have e : fiE A = 0 := by unfold fiE; rw [if_neg (by omega), if_neg h2]
  exact ⟨e, by unfold fiT; rw [if_pos e]⟩
/-- What has been filled of the least assignment, when the walk has come to r. -/
structure FiI (N : List Fk) (vars root r : Int) (q : Int → Bool) : Prop where
  all : ∀ j, fp N root j = (q j || fp N r j)
  up : ∀ j, lev vars N r ≤ j → q j = false
theorem fi_start {N : List Fk} {vars root : Int} : FiI N vars root root (fun _ => false) := ⟨fun j => by simp, fun j _ => rfl⟩
/-- The list that is filled. -/
theorem fi_step {N : List Fk} {vars root r : Int} {q : Int → Bool} (f : Fm vars N) (h : FiI N vars root r q) (hr : Rf N r) (h2 : 2 ≤ r) : FiI N vars root (fc N r) (fun j => if j = (nd N r).v then decide ((nd N r).l = 0) else q j) := by
  have hc := fc_rf f h2 hr.2
  have hl : lev vars N r = (nd N r).v := lev_node (by omega)
  refine ⟨fun j => ?_, fun j hj => ?_⟩
  · rw [h.all j, fp_step f h2 hr.2]
    by_cases e : j = (nd N r).v
    · rw [if_pos e]
      show _ = ((if j = (nd N r).v then decide ((nd N r).l = 0) else q j) || fp N (fc N r) j)
      rw [if_pos e, h.up j (by omega), fp_low f (fc N r).toNat _ j hc.1 (by have := hc.1.1; omega) (by omega), Bool.false_or, Bool.or_false]
    · rw [if_neg e]
      show _ = ((if j = (nd N r).v then decide ((nd N r).l = 0) else q j) || fp N (fc N r) j)
      rw [if_neg e]
  · show (if j = (nd N r).v then decide ((nd N r).l = 0) else q j) = false
    rw [if_neg (by omega), h.up j (by omega)]
def fiF (q : Int → Bool) (n : Nat) : List Value := fb (fun j => q (j : Int)) n
theorem fiF_0 (n : Nat) : List.replicate n (Value.bool false) = fiF (fun _ => false) n := fb_rep _ _ fun _ _ => rfl
theorem fiF_len (q : Int → Bool) (n : Nat) : (fiF q n).length = n := fb_len _ _
theorem fiF_set {q : Int → Bool} {n : Nat} {v : Int} {p : Prop} [Decidable p] (h0 : 0 ≤ v) : (fiF q n).set v.toNat (.bool (decide p)) = fiF (fun j => if j = v then decide p else q j) n := by
  unfold fiF
  rw [fb_set]
  refine fb_congr fun j _ => ?_
  by_cases e : j = v.toNat
  · rw [if_pos e]; exact (if_pos (by omega)).symm
  · rw [if_neg e]; exact (if_neg (by omega)).symm
theorem fi_end {A : Dg} {r : Int} {q : Int → Bool} (h : FiI A.N A.v A.r r q) (hr : r < 2) : fiF q A.v.toNat = bvs (fpL A) := by
  show fb _ _ = fb _ _
  refine fb_congr fun j _ => ?_
  rw [h.all j, fp_const hr, Bool.or_false]
theorem fol_fc {vars r : Int} {N : List Fk} (h2 : 2 ≤ r) : fol vars N r (nd N r).v ((nd N r).l = 0) = fc N r := by
  have hl : lev vars N r = (nd N r).v := lev_node (by omega)
  unfold fc
  by_cases e : (nd N r).l = 0
  · rw [fol_h hl e, if_pos e]
  · rw [fol_l hl e, if_neg e]
end Go.Proofs.Ytgehdgeiikjohaa
