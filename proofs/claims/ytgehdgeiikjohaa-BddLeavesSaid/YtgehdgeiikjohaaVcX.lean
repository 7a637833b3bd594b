/- Regions in which several operations that make memory may come next. No program in sight. -/
import Derived.Test.YtgehdgeiikjohaaVcW
namespace Go.Vc
open Go
section
variable {P : Program} {C : Cx} {N : Nat} {K : K3} {Q : Ex → K3} {env : Env} {V : HV} {σ σq : Res} {ops : Array Oper} {listed : Array Bool} {f i j k : Nat}
variable {d : Nat} {t : TypeId} {pos : String} {af : Array Edge} {g : Option (Nat × Bool)} {v : Value} {op : Op} {o : Oper}

/-- The walk of a region in every order from here on. -/
def EOrds (P : Program) (C : Cx) (N : Nat) (ops : Array Oper) (K : K3) (f : Nat) (listed : Array Bool) (env : Env) (V : HV) (σ σq : Res) : Prop :=
  ∀ a w, Fr N env a → Mem C V σ w → (∃ τ, σ.Perm (σq ++ τ)) → wpE P .any ops (lift C N K (fun _ _ _ _ => False)) f (Mem C V σq) listed a w
def quietB (ops : Array Oper) (listed : Array Bool) (i : Nat) : Bool := Region.noSelect ops && (Region.ready .any ops listed).contains i && Region.free .any ops listed i
theorem ee (hB : quietB ops listed i = true) (ho : ops[i]? = some ⟨some d, op, t, pos, af, g⟩) (hq : QV P C ⟨some d, op, t, pos, af, g⟩ env V σq v) (hw : wantedE ⟨some d, op, t, pos, af, g⟩ ops env = true)
    (h : EOrds P C N ops K f (listed.setIfInBounds i true) (upd N env d v) V σ σq) : EOrds P C N ops K (f + 1) listed env V σ σq := fun a w hf hm hp => by
  simp only [quietB, Bool.and_eq_true] at hB
  obtain ⟨τ, hτ⟩ := hp
  exact E_first ho (Region.noSelect_spec hB.1.1) (fun c a w h => by obtain ⟨_, _, _, _, _, h⟩ := h; exact h.elim) f _ listed a w (shut_mem _ _ _) (hm.weaken (Sub.refl _) hm.sub hm.vold hτ) (Region.free_spec ho hB.2) (by simpa using hB.1.2)
    (.inl ⟨by rw [hf.yielded]; exact hw, fun w' c => by rw [hf.eval]; exact quietUpon_mono (fun _ h => h.2) (hq w' c)⟩) (h _ w (hf.put (some d) v) hm ⟨τ, hτ⟩)
theorem eq_ (hB : quietB ops listed i = true) (ho : ops[i]? = some ⟨some d, op, t, pos, af, none⟩) (hq : QV P C ⟨some d, op, t, pos, af, none⟩ env V σq v)
    (h : EOrds P C N ops K f (listed.setIfInBounds i true) (upd N env d v) V σ σq) : EOrds P C N ops K (f + 1) listed env V σ σq := ee hB ho hq (wantedE_none rfl) h
/-- An operation that is no mere reading comes next. -/
def ELoud (P : Program) (C : Cx) (N : Nat) (ops : Array Oper) (K : K3) (f : Nat) (listed : Array Bool) (env : Env) (V : HV) (σ σq : Res) (i : Nat) : Prop :=
  ∃ o, ops[i]? = some o ∧ Ops P C N ops (fun e' V' σ' => ∃ σq' τ', σ'.Perm (σq' ++ τ') ∧ ((Sub V V' ∧ ∃ ρ, σq'.Perm (σq ++ ρ)) ∨ loneB .any ops i = true) ∧ EOrds P C N ops K f (listed.setIfInBounds i true) e' V' σ' σq') [o] env V σ
theorem el {rs : List Nat} (hr : decide (Region.ready .any ops listed = rs) = true) (hne : rs.isEmpty = false) (h : ∀ i ∈ rs, ELoud P C N ops K f listed env V σ σq i) : EOrds P C N ops K (f + 1) listed env V σ σq := fun a w hf hm hp w' e' => by
  have hr := of_decide_eq_true hr
  refine ⟨fun h0 => absurd (hr.symm.trans h0) (fun e => by rw [e] at hne; exact Bool.noConfusion hne), fun i hi => ?_⟩
  rw [hr] at hi
  obtain ⟨o, ho, h⟩ := h i hi
  have hm' := hm.ext e'
  have hl := h a w' hf hm'
  have fin : ∀ a'' w'', lift C N (fun e' V' σ' => ∃ σq' τ', σ'.Perm (σq' ++ τ') ∧ ((Sub V V' ∧ ∃ ρ, σq'.Perm (σq ++ ρ)) ∨ loneB .any ops i = true) ∧ EOrds P C N ops K f (listed.setIfInBounds i true) e' V' σ' σq') (fun _ _ _ _ => False) .normal a'' w'' →
      ∃ CQ' : World → Prop, Shut CQ' ∧ ((∀ w, CQ' w → Mem C V σq w) ∨ loneB .any ops i = true) ∧ CQ' w'' ∧ wpE P .any ops (lift C N K (fun _ _ _ _ => False)) f CQ' (listed.setIfInBounds i true) a'' w'' := by
    rintro a'' w'' ⟨env', V', σ', hf', hm2, σq', τ', h2, h3, h4⟩
    exact ⟨Mem C V' σq', shut_mem _ _ _, h3.imp (fun ⟨h1, ρ, h3⟩ w c => c.weaken h1 hm.sub hm.vold h3) id, hm2.weaken (Sub.refl _) hm2.sub hm2.vold h2, h4 _ _ hf' hm2 ⟨τ', h2⟩⟩
  unfold wpOp
  simp only [ho]
  simp only [wpList] at hl
  split
  · rename_i hw
    rw [if_pos hw] at hl
    rcases hl with hl | ⟨_, hl⟩
    · exact .inl (Oper.wp_monoQ fin (fun c a w ⟨_, _, _, _, _, h⟩ => h.elim) (fun h => absurd h no_out) hl)
    · exact absurd hl no_out
  · rename_i hw
    rw [if_neg hw] at hl
    exact fin _ _ hl
theorem el1 (hr : decide (Region.ready .any ops listed = [i]) = true) (h : ELoud P C N ops K f listed env V σ σq i) : EOrds P C N ops K (f + 1) listed env V σ σq :=
  el hr rfl fun x hx => by simp only [List.mem_singleton] at hx; exact hx ▸ h
theorem el2 (hr : decide (Region.ready .any ops listed = [i, j]) = true) (h : ELoud P C N ops K f listed env V σ σq i) (h2 : ELoud P C N ops K f listed env V σ σq j) : EOrds P C N ops K (f + 1) listed env V σ σq :=
  el hr rfl fun x hx => by
    simp only [List.mem_cons, List.not_mem_nil, or_false] at hx
    rcases hx with rfl | rfl <;> assumption
theorem el3 (hr : decide (Region.ready .any ops listed = [i, j, k]) = true) (h : ELoud P C N ops K f listed env V σ σq i) (h2 : ELoud P C N ops K f listed env V σ σq j) (h3 : ELoud P C N ops K f listed env V σ σq k) : EOrds P C N ops K (f + 1) listed env V σ σq :=
  el hr rfl fun x hx => by
    simp only [List.mem_cons, List.not_mem_nil, or_false] at hx
    rcases hx with rfl | rfl | rfl <;> assumption
theorem enil {σ' : Res} (hr : (Region.ready .any ops listed).isEmpty = true) (hp : σ.Perm σ') (h : K env V σ') : EOrds P C N ops K 0 listed env V σ σq := fun a w hf hm _ w' e' =>
  ⟨by simpa using hr, ⟨env, V, σ', hf, (hm.ext e').perm hp, h⟩⟩
theorem vc_region_E {id n : Nat} {l : List Oper} {τ : Res} (σq : Res) (hm : P.follows .mixedOrders = true) (hp : σ.Perm (σq ++ τ)) (hn : l.length = n)
    (h : EOrds P C N l.toArray K n (Array.replicate n false) env V σ σq) : VC P C N (.region id l.toArray true) K Q env V σ := fun a w hf hmm => by
  have hmd := hmm.drawn (w.drawn + 1)
  have h1 := h a _ hf hmd ⟨τ, hp⟩
  refine wp_mono (wp_region_any (Q := lift C N K (fun _ _ _ _ => False)) hm ?_) ?_
  · have h2 := any_of_E _ _ _ _ _ h1
    have e : l.toArray.size = n := by simpa using hn
    rw [e]; exact h2
  · rintro e a'' w'' ⟨env'', V', σ', q1, q2, hh⟩
    refine ⟨env'', V', σ', q1, q2, ?_⟩
    cases e <;> first | exact hh | exact hh.elim
end
end Go.Vc
