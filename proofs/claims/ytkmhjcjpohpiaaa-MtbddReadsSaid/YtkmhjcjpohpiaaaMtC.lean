/- Diagrams that are built anew, with a variable set; combinations of valid diagrams. No program in sight. -/
import Derived.Test.YtkmhjcjpohpiaaaMtB
namespace Go.Proofs.Ytkmhjcjpohpiaaa
open Go Go.Vc
open Classical
/- what finish returns -/
theorem fin_of {vars : Int} {L : List Int} {M : List Fk} {root : Int} {f : (Int → Bool) → Int} (hv : 0 ≤ vars) (b : BOk vars L M) (hr : (bV L M).ok root) (hf : ∀ e, gev (bV L M) e root = f e) (hrch : ∀ z ∈ L, (∃ e, f e = z) ∨ inR z) :
    bD vars L M root = dg vars (tabv vars f) ∧ finE L (bD vars L M root) = mkE vars (tabv vars f) := by
  have hd : Dep vars f := by
    have := gev_dep b.red hv hr
    rwa [show (fun e => gev (bV L M) e root) = f from funext hf] at this
  have e := bD_eq (vars := vars) hf
  exact ⟨e, by rw [e]; exact fin_mk (wd_tab hv b hr hf hd hrch)⟩
/-- The diagram has at most as many leaves and nodes as the builder. -/
theorem bD_len {vars : Int} {L : List Int} {M : List Fk} {root : Int} (hv : 0 ≤ vars) (b : BOk vars L M) (hr : (bV L M).ok root) : (bD vars L M root).L.length ≤ L.length ∧ (bD vars L M root).N.length ≤ M.length := by
  have F := fin_ok hv b hr
  have I := (ord_inv b.red (root.toNat + 2) root os0 hr (mu_lt hr) osi0).inv.len
  have I1 : (oE M root).lv.length ≤ L.length ∧ (oE M root).nd.length ≤ M.length := I
  have h1 := F.ll
  rw [lvS_len] at h1
  have h2 := F.len
  exact ⟨by rw [h1]; exact I1.1, by rw [h2]; exact I1.2⟩
theorem fin_0 {vars : Int} {L : List Int} {M : List Fk} {root : Int} {f : (Int → Bool) → Int} (hv : 0 ≤ vars) (b : BOk vars L M) (hr : (bV L M).ok root) (hf : ∀ e, gev (bV L M) e root = f e) (hin : ∀ z ∈ L, inR z) (h1 : L.length ≤ 4096) (h2 : M.length ≤ 4096) :
    bD vars L M root = dg vars (tabv vars f) ∧ finE L (bD vars L M root) = 0 ∧ mkE vars (tabv vars f) = 0 := by
  have a := fin_of hv b hr hf fun z hz => .inr (hin z hz)
  have l := bD_len hv b hr
  have w : ¬ wd L := fun ⟨z, hz, n⟩ => n (hin z hz)
  have g : ¬ big (bD vars L M root) := by unfold big; omega
  exact ⟨a.1, finE_0 w g, by rw [← a.2]; exact finE_0 w g⟩
/-- What a reference of the builder stands for: a reference of a diagram, with the variable i set to b. -/
structure Rs (A : Mg) (i : Int) (b : Bool) (L : List Int) (M : List Fk) (r p : Int) : Prop where
  rf : (bV L M).ok p
  lv : tp A r ≤ lev A.v (bV L M) p
  val : ∀ e, gev (bV L M) e p = gev (mG A) (up e i b) r
theorem Rs.up {A : Mg} {i : Int} {b : Bool} {L X : List Int} {M Y : List Fk} {r p : Int} (s : Rs A i b L M r p) (f : GRed A.v (bV L M)) (g : GRed A.v (bV (L ++ X) (M ++ Y))) : Rs A i b (L ++ X) (M ++ Y) r p :=
  ⟨(bG_sub s.rf).1, by rw [bG_lev s.rf]; exact s.lv, fun e => by rw [bG_gev f g s.rf e]; exact s.val e⟩
/-- A diagram of which the first references are built. -/
structure RInv (A : Mg) (i : Int) (b : Bool) (L : List Int) (M : List Fk) (R : List Int) : Prop where
  ok : BOk A.v L M
  rs : ∀ r : Int, 0 ≤ r → r < R.length → Rs A i b L M r (gi R r)
  inr : ∀ z ∈ L, inR z
  ll : L.length ≤ A.L.length ∧ L.length ≤ R.length
  ml : (M.length : Int) ≤ A.N.length ∧ M.length ≤ R.length ∧ ((M.length : Int) ≤ 0 ∨ M.length + (A.L.length : Int) ≤ R.length)
theorem rinv0 {A : Mg} {i : Int} {b : Bool} : RInv A i b [] [] [] := ⟨bok_nil, fun r h0 h1 => by have h1 : r < ((0 : Nat) : Int) := h1; omega, fun z h => by simp at h, by simp, by simp⟩
theorem rinv_leaf {A : Mg} {i : Int} {b : Bool} {L R : List Int} {k : Int} (c : RInv A i b L [] R) (hk : k = R.length) (h1 : k < A.L.length) (hin : inR (gi A.L k)) : RInv A i b (lfR L (gi A.L k)).1 [] (R ++ [(lfR L (gi A.L k)).2]) := by
  have o := leaf_ok (z := gi A.L k) c.ok
  obtain ⟨X, hX⟩ := o.ext
  have hl := lfR_len (L := L) (z := gi A.L k)
  have e0 : ([] : List Fk) = [] ++ [] := rfl
  have hll := c.ll
  refine ⟨o.ok, fun r r0 r1 => ?_, fun z hz => ?_, ?_, by simp⟩
  · have hlen : ((R ++ [(lfR L (gi A.L k)).2]).length : Int) = R.length + 1 := by simp
    by_cases q : r < R.length
    · rw [gi_app r0 q]
      have := (c.rs r r0 q).up (X := X) (Y := []) c.ok.red (by rw [← hX]; exact o.ok.red)
      rw [← hX] at this
      exact this
    · have : r = R.length := by omega
      subst this
      rw [gi_last]
      have hlf : (mG A).lf (R.length : Int) := by show (R.length : Int) < A.L.length; omega
      refine ⟨o.rf, ?_, fun e => ?_⟩
      · rw [lev_lf (G := bV (lfR L (gi A.L k)).1 []) o.lf]
        rw [tp_l (by omega)]; exact Int.le_refl _
      · rw [gev_lf (G := bV (lfR L (gi A.L k)).1 []) o.lf, gev_lf hlf]
        show id (gi (lfR L (gi A.L k)).1 ((lfR L (gi A.L k)).2 / 2)) = gi A.L (R.length : Int)
        rw [← hk]; exact o.vl
  · rcases lfR_mem hz with h | h
    · exact c.inr z h
    · subst h; exact hin
  · refine ⟨?_, by rw [List.length_append]; show _ ≤ R.length + 1; omega⟩
    have : R.length < A.L.length := by omega
    omega
/-- The reference of the next node. -/
noncomputable def rsN (A : Mg) (i : Int) (b : Bool) (M : List Fk) (R : List Int) (j : Int) : List Fk × Int :=
  if (fk A.N j).v ≠ i then ndR M (fk A.N j).v (gi R (fk A.N j).l) (gi R (fk A.N j).h) else (M, if b = true then gi R (fk A.N j).h else gi R (fk A.N j).l)
theorem rsN_n {A : Mg} {i : Int} {b : Bool} {M : List Fk} {R : List Int} {j : Int} (h : (fk A.N j).v ≠ i) : rsN A i b M R j = ndR M (fk A.N j).v (gi R (fk A.N j).l) (gi R (fk A.N j).h) := if_pos h
theorem rsN_t {A : Mg} {i : Int} {b : Bool} {M : List Fk} {R : List Int} {j : Int} (h : ¬ (fk A.N j).v ≠ i) (hb : b = true) : rsN A i b M R j = (M, gi R (fk A.N j).h) := by unfold rsN; rw [if_neg h, if_pos hb]
theorem rsN_f {A : Mg} {i : Int} {b : Bool} {M : List Fk} {R : List Int} {j : Int} (h : ¬ (fk A.N j).v ≠ i) (hb : ¬ b = true) : rsN A i b M R j = (M, gi R (fk A.N j).l) := by unfold rsN; rw [if_neg h, if_neg hb]
theorem rinv_node {A : Mg} {i : Int} {b : Bool} {L R : List Int} {M : List Fk} {j : Int} (f : GRed A.v (mG A)) (hb : ∀ j : Int, 0 ≤ j → j < A.N.length → (0 ≤ (fk A.N j).l ∧ (fk A.N j).l < A.L.length + j) ∧ (0 ≤ (fk A.N j).h ∧ (fk A.N j).h < A.L.length + j)) (c : RInv A i b L M R) (hk : (R.length : Int) = A.L.length + j) (j0 : 0 ≤ j) (h1 : j < A.N.length) :
    RInv A i b L (rsN A i b M R j).1 (R ++ [(rsN A i b M R j).2]) := by
  have hbj := hb j j0 h1
  have hr : (mG A).ok (A.L.length + j) := ⟨by omega, by show (A.L.length : Int) + j < A.L.length + A.N.length; omega⟩
  have hlf : ¬ (mG A).lf (A.L.length + j) := by show ¬ (A.L.length : Int) + j < A.L.length; omega
  have en : (mG A).nd (A.L.length + j) = fk A.N j := by show fk A.N ((A.L.length : Int) + j - A.L.length) = _; rw [show (A.L.length : Int) + j - A.L.length = j by omega]
  have hlo := f.lo _ hr hlf
  have hhi := f.hi _ hr hlf
  have hvr := f.vr _ hr hlf
  rw [en] at hlo hhi hvr
  have tl : ∀ r, tp A r = lev A.v (mG A) r := fun r => tp_lev rfl
  have sl := c.rs (fk A.N j).l hbj.1.1 (by omega)
  have sh := c.rs (fk A.N j).h hbj.2.1 (by omega)
  have hll := c.ll
  have hml := c.ml
  have tj : tp A (A.L.length + j) = (fk A.N j).v := by rw [tp_n hlf]; show (fk A.N ((A.L.length : Int) + j - A.L.length)).v = _; rw [show (A.L.length : Int) + j - A.L.length = j by omega]
  have lsl := sl.lv
  have lsh := sh.lv
  rw [tl] at lsl lsh
  have hlen : ∀ p : Int, ((R ++ [p]).length : Int) = R.length + 1 := fun p => by simp
  have key : BOk A.v L (rsN A i b M R j).1 ∧ (∃ Y, (rsN A i b M R j).1 = M ++ Y) ∧ Rs A i b L (rsN A i b M R j).1 (A.L.length + j) (rsN A i b M R j).2 ∧ (rsN A i b M R j).1.length ≤ M.length + 1 := by
    by_cases hi : (fk A.N j).v ≠ i
    · rw [rsN_n hi]
      have n := node_ok c.ok hvr.1 hvr.2 sl.rf sh.rf (by omega) (by omega)
      refine ⟨n.ok, n.ext, ⟨n.rf, ?_, fun e => ?_⟩, ndR_len.2⟩
      · rw [tj]; exact n.lv
      · rw [n.vl, gev_step f hr hlf, en]
        have : up e i b (fk A.N j).v = e (fk A.N j).v := if_neg hi
        rw [this]
        split
        · exact sh.val e
        · exact sl.val e
    · have hi2 : (fk A.N j).v = i := Decidable.not_not.1 hi
      have hu : ∀ e : Int → Bool, up e i b (fk A.N j).v = b := fun e => if_pos hi2
      by_cases hb : b = true
      · rw [rsN_t hi hb]
        refine ⟨c.ok, ⟨[], by simp⟩, ⟨sh.rf, ?_, fun e => ?_⟩, by simp⟩
        · rw [tj]; show (fk A.N j).v ≤ lev A.v (bV L M) (gi R (fk A.N j).h); omega
        · rw [gev_step f hr hlf, en, hu, if_pos hb]; exact sh.val e
      · rw [rsN_f hi hb]
        refine ⟨c.ok, ⟨[], by simp⟩, ⟨sl.rf, ?_, fun e => ?_⟩, by simp⟩
        · rw [tj]; show (fk A.N j).v ≤ lev A.v (bV L M) (gi R (fk A.N j).l); omega
        · rw [gev_step f hr hlf, en, hu, if_neg hb]; exact sl.val e
  obtain ⟨k1, ⟨Y, hY⟩, k3, k4⟩ := key
  generalize rsN A i b M R j = x at k1 hY k3 k4
  refine ⟨k1, fun r r0 r1 => ?_, c.inr, ⟨hll.1, by rw [List.length_append]; omega⟩, ?_⟩
  · have r1 : r < ((R ++ [x.2]).length : Int) := r1
    rw [hlen] at r1
    by_cases q : r < R.length
    · rw [gi_app r0 q]
      have := (c.rs r r0 q).up (X := []) (Y := Y) c.ok.red (by rw [List.append_nil, ← hY]; exact k1.red)
      rw [List.append_nil, ← hY] at this
      exact this
    · have e : r = R.length := by omega
      rw [e, gi_last, hk]; exact k3
  · have := hlen x.2
    omega
/-- All is built. -/
theorem RInv.fin {A : Mg} {i : Int} {b : Bool} {L R : List Int} {M : List Fk} (c : RInv A i b L M R) (hv : 0 ≤ A.v) (hl : A.L.length ≤ 4096) (hn : A.N.length ≤ 4096) (hR : (R.length : Int) = A.L.length + A.N.length) (hr : (mG A).ok A.r) :
    (bV L M).ok (gi R A.r) ∧ bD A.v L M (gi R A.r) = dg A.v (tabv A.v fun e => vl A (up e i b)) ∧ finE L (bD A.v L M (gi R A.r)) = 0 ∧ mkE A.v (tabv A.v fun e => vl A (up e i b)) = 0 := by
  have hr2 : A.r < A.L.length + A.N.length := hr.2
  have s := c.rs A.r hr.1 (by omega)
  have hll := c.ll
  have hml := c.ml
  exact ⟨s.rf, fin_0 hv c.ok s.rf s.val c.inr (by omega) (by omega)⟩
/- combinations of valid diagrams -/
theorem gev_m0 (e : Int → Bool) : gev (mG m0) e 0 = 0 := by
  rw [gev_lf (G := mG m0) (show (0 : Int) < ((1 : Nat) : Int) by omega)]; rfl
theorem cT1 {A : Mg} {vars : Int} {F : Int → Int → Int → Int} : cT vars [A] F = tabv vars fun e => F (vl A e) 0 0 := by
  show tabv vars (fun e => F (gev (mG A) e A.r) (gev (mG m0) e 0) (gev (mG m0) e 0)) = _
  simp only [gev_m0]
theorem cT2 {A B : Mg} {vars : Int} {F : Int → Int → Int → Int} : cT vars [A, B] F = tabv vars fun e => F (vl A e) (vl B e) 0 := by
  show tabv vars (fun e => F (gev (mG A) e A.r) (gev (mG B) e B.r) (gev (mG m0) e 0)) = _
  simp only [gev_m0]
theorem cT3 {A B C0 : Mg} {vars : Int} {F : Int → Int → Int → Int} : cT vars [A, B, C0] F = tabv vars fun e => F (vl A e) (vl B e) (vl C0 e) := rfl
/-- The values of the diagram of a function. -/
theorem vl_dg {vars : Int} {f : (Int → Bool) → Int} (hv : 0 ≤ vars) (hd : Dep vars f) (hin : ∀ e, inR (f e)) (e : Int → Bool) : vl (dg vars (tabv vars f)) e = f e := by
  have h := vT_dg (t := tabv vars f) hv (tabv_len f)
  have hloc := dg_loc (t := tabv vars f) hv (tabv_len f) fun z hz => by
    obtain ⟨e, rfl⟩ := (tabv_mem hv hd).1 hz
    exact hin e
  have hdep : Dep vars (vl (dg vars (tabv vars f))) := gev_dep (Loc.red hloc.nd) hv hloc.rt
  have h2 : tabv vars (vl (dg vars (tabv vars f))) = tabv vars f := h
  exact tbl_inj hv hdep hd ((tab_tbl hv _).symm.trans (h2.trans (tab_tbl hv _))) e
end Go.Proofs.Ytkmhjcjpohpiaaa
