/- Regions that may come in any order and hold operations that make memory among others that only read. No program in sight. -/
import Derived.Test.YtgehdgeiikjohaaVcG
namespace Go.Vc
open Go

section
variable {P : Program} {ops : Array Oper} {md : Region.Mode} {Q : Exit → Act → World → Prop}

/-- wpOp_put (Derived/Orders) with any property of the frame that lasts. -/
theorem wpOp_put' {j : Nat} {oi oj : Oper} {v : Value} {Y : Act → Prop} (hj : ops[j]? = some oj) (hap : oi.apart ops oj = true) (hsj : ∀ cs b, oj.op ≠ .select cs b)
    (hQ : ∀ c a w, Q (.panic c) (a.put oi.dst v) w → Q (.panic c) a w) {K : Act → World → Prop} {a : Act} {w : World}
    (keep : ∀ a u, Y a → Y (a.put oj.dst u)) (keepD : ∀ a d, Y a → Y { a with defers := d :: a.defers }) (hy : Y a) (h : wpOp P ops Q j K (a.put oi.dst v) w) :
    wpOp P ops Q j (fun a' w' => Y a' ∧ K (a'.put oi.dst v) w') a w := by
  obtain ⟨h1, h2, h3⟩ := Oper.apart_spec hap
  unfold wpOp at *
  simp only [hj] at *
  rw [wanted_put oj a oi.dst v h1] at h
  split
  · rename_i hw
    simp only [hw, if_true] at h
    rcases h with h | ⟨hasks, hlets⟩
    case inr => exact .inr ⟨by unfold Oper.asks at *; rw [execOp_put oj hsj a oi.dst v h1] at hasks; exact hasks, hlets⟩
    refine .inl ?_
    unfold Oper.wp at *
    rw [execOp_put oj hsj a oi.dst v h1] at h
    generalize (execOp a.eval oj).run P w = r at *
    cases r with
    | ok n w' =>
      cases n <;> simp only [Oper.upon] at h ⊢
      case value u => exact ⟨keep a u hy, by rw [← Act.put_comm a v u h2]; exact h⟩
      case skip => exact ⟨keep a _ hy, by rw [← Act.put_comm a v undef h2]; exact h⟩
      case defer d =>
        refine ⟨keep _ _ (keepD a d hy), ?_⟩
        rw [← Act.put_comm _ v undef h2, ← Act.put_defers]
        exact h
      case enter f args =>
        refine Calls.mono h fun e w'' he => ?_
        cases e with
        | returned u => exact ⟨keep a u hy, by rw [← Act.put_comm a v u h2]; exact he⟩
        | panicked c => exact hQ _ _ _ he
        | outgrown => exact he
      case row row args => exact Rows.mono h fun u w'' he => ⟨keep a u hy, by rw [← Act.put_comm a v u h2]; exact he⟩
    | halt x w' =>
      cases x <;> simp only [Oper.upon] at h ⊢
      case panic u => exact hQ _ _ _ h
  · rename_i hw
    simp only [hw] at h
    exact ⟨keep a _ hy, by rw [← Act.put_comm a v undef h2]; exact h⟩

/-- In every world of the kind the operation yields v, and only new blocks may come. -/
def YieldsE (P : Program) (ops : Array Oper) (CQ : World → Prop) (o : Oper) (v : Value) (a : Act) : Prop :=
  (Region.wanted o (yielded ops a.tmps) = true ∧ ∀ w, CQ w → Oper.quietUpon P (fun w' => Ext w w') w v ((execOp a.eval o).run P w)) ∨
  (Region.wanted o (yielded ops a.tmps) = false ∧ v = undef)

theorem YieldsE.of_same {CQ : World → Prop} {o : Oper} {v : Value} {a a' : Act} (hy : YieldsE P ops CQ o v a) (he : execOp a'.eval o = execOp a.eval o)
    (hw : Region.wanted o (yielded ops a'.tmps) = Region.wanted o (yielded ops a.tmps)) : YieldsE P ops CQ o v a' := by
  unfold YieldsE at *; rw [he, hw]; exact hy
theorem YieldsE.mono {CQ CQ' : World → Prop} {o : Oper} {v : Value} {a : Act} (hy : YieldsE P ops CQ o v a) (h : ∀ w, CQ' w → CQ w) : YieldsE P ops CQ' o v a := by
  rcases hy with ⟨h1, h2⟩ | h1
  · exact .inl ⟨h1, fun w c => h2 w (h w c)⟩
  · exact .inr h1

theorem YieldsE.wpOp {CQ : World → Prop} {i : Nat} {o : Oper} {v : Value} {a : Act} (hi : ops[i]? = some o) (hy : YieldsE P ops CQ o v a) {K : Act → World → Prop} {w : World} (hw : CQ w)
    (h : ∀ w', Ext w w' → K (a.put o.dst v) w') : Go.wpOp P ops Q i K a w := by
  unfold Go.wpOp
  simp only [hi]
  rcases hy with ⟨hwant, hv⟩ | ⟨hwant, rfl⟩
  · simp only [hwant, if_true]
    left
    have h3 := hv w hw
    unfold Oper.wp
    generalize (execOp a.eval o).run P w = r at *
    cases r with
    | ok n w' =>
      cases n <;> simp only [Oper.quietUpon] at h3 <;> simp only [Oper.upon]
      case value u => obtain ⟨e1, e2⟩ := h3; rw [e1, e2]; exact h _ (Ext.refl _)
      case skip => obtain ⟨e1, e2⟩ := h3; rw [e1, ← e2]; exact h _ (Ext.refl _)
      case enter f args =>
        obtain ⟨e1, hc⟩ := h3
        rw [e1]
        exact hc.mono fun e w'' ⟨he, hw''⟩ => by subst he; exact h _ hw''
    | halt x w' => simp only [Oper.quietUpon] at h3
  · simp only [hwant, Bool.false_eq_true, if_false]; exact h _ (Ext.refl _)

/-- A kind of worlds that new blocks do not leave. -/
def Shut (CQ : World → Prop) : Prop := ∀ w w', CQ w → Ext w w' → CQ w'

/-- Operation j and any other one wait, one for the other. -/
def loneB (md : Region.Mode) (ops : Array Oper) (j : Nat) : Bool :=
  (List.range ops.size).all fun i => i == j || Region.waitsFor md ops j i || Region.waitsFor md ops i j

theorem not_both {i j : Nat} {listed : Array Bool} (h : loneB md ops j = true) (hij : j ≠ i) (hi : i ∈ Region.ready md ops listed) (hj : j ∈ Region.ready md ops listed) : False := by
  obtain ⟨ui, oi, hoi, alli⟩ := mem_ready.1 hi
  obtain ⟨uj, oj, hoj, allj⟩ := mem_ready.1 hj
  have hlt : i < ops.size := (Array.getElem?_eq_some_iff.1 hoi).1
  have := List.all_eq_true.1 h i (List.mem_range.2 hlt)
  simp only [Bool.or_eq_true, beq_iff_eq] at this
  rcases this with (e | e) | e
  · exact hij e.symm
  · obtain ⟨o, ho, x, hx, hb, hon⟩ := Region.waitsFor_spec e
    have : o = oj := Option.some.inj (ho.symm.trans hoj)
    subst this
    have := allj x hx hb
    rw [hon, getD_both ui] at this
    cases this
  · obtain ⟨o, ho, x, hx, hb, hon⟩ := Region.waitsFor_spec e
    have : o = oi := Option.some.inj (ho.symm.trans hoi)
    subst this
    have := alli x hx hb
    rw [hon, getD_both uj] at this
    cases this

/-- Whatever order is picked from here on, in this world and wherever new blocks have come. -/
def wpE (P : Program) (md : Region.Mode) (ops : Array Oper) (Q : Exit → Act → World → Prop) : Nat → (World → Prop) → Array Bool → Act → World → Prop
  | 0, _, listed, a, w => ∀ w', Ext w w' → Region.ready md ops listed = [] ∧ Q .normal a w'
  | f + 1, CQ, listed, a, w => ∀ w', Ext w w' → (Region.ready md ops listed = [] → Q .normal a w') ∧
      ∀ i ∈ Region.ready md ops listed, wpOp P ops Q i (fun a' w'' => ∃ CQ' : World → Prop, Shut CQ' ∧ ((∀ w, CQ' w → CQ w) ∨ loneB md ops i = true) ∧ CQ' w'' ∧ wpE P md ops Q f CQ' (listed.setIfInBounds i true) a' w'') a w'

theorem wpE_ext : ∀ {f : Nat} {CQ : World → Prop} {listed : Array Bool} {a : Act} {w w' : World}, wpE P md ops Q f CQ listed a w → Ext w w' → wpE P md ops Q f CQ listed a w'
  | 0, _, _, _, _, _, h, e => fun w2 e2 => h w2 (e.trans e2)
  | _ + 1, _, _, _, _, _, h, e => fun w2 e2 => h w2 (e.trans e2)

theorem any_of_E : ∀ (f : Nat) (CQ : World → Prop) (listed : Array Bool) (a : Act) (w : World), wpE P md ops Q f CQ listed a w → wpAny P md ops Q f listed a w
  | 0, _, _, _, w, h => h w (Ext.refl _)
  | f + 1, _, _, _, w, h => ⟨(h w (Ext.refl _)).1, fun i hi => wpOp_mono (fun a' w' ⟨_, _, _, _, h'⟩ => any_of_E f _ _ a' w' h') ((h w (Ext.refl _)).2 i hi)⟩

theorem E_first {i : Nat} {oi : Oper} {v : Value} (hi : ops[i]? = some oi) (hsel : ∀ (j : Nat) (o : Oper) cs b, ops[j]? = some o → o.op ≠ .select cs b)
    (hQ : ∀ c a w, Q (.panic c) (a.put oi.dst v) w → Q (.panic c) a w) :
    ∀ (fuel : Nat) (CQ : World → Prop) (listed : Array Bool) (a : Act) (w : World), Shut CQ → CQ w →
      (∀ j oj, ops[j]? = some oj → j ≠ i → listed.getD j true = false → (∀ e ∈ oj.after, Region.binds md e = true → e.on ≠ i) → oi.apart ops oj = true) →
      i ∈ Region.ready md ops listed → YieldsE P ops CQ oi v a →
      wpE P md ops Q fuel CQ (listed.setIfInBounds i true) (a.put oi.dst v) w → wpE P md ops Q (fuel + 1) CQ listed a w := by
  intro fuel
  induction fuel with
  | zero =>
    intro CQ listed a w hS hw _ hr hy H w' e'
    refine ⟨fun h => (by rw [h] at hr; cases hr), fun j hj => ?_⟩
    by_cases hji : j = i
    · subst hji
      exact hy.wpOp hi (hS _ _ hw e') (fun w2 e2 => ⟨CQ, hS, .inl fun _ h => h, hS _ _ hw (e'.trans e2), fun w3 e3 => H w3 ((e'.trans e2).trans e3)⟩)
    · have := ready_mono hj hji
      rw [(H w' e').1] at this
      cases this
  | succ fuel ih =>
    intro CQ listed a w hS hw hfree hr hy H w' e'
    refine ⟨fun h => (by rw [h] at hr; cases hr), fun j hj => ?_⟩
    by_cases hji : j = i
    · subst hji
      exact hy.wpOp hi (hS _ _ hw e') (fun w2 e2 => ⟨CQ, hS, .inl fun _ h => h, hS _ _ hw (e'.trans e2), wpE_ext H (e'.trans e2)⟩)
    · have h1 := (H w' e').2 j (ready_mono hj hji)
      obtain ⟨hjun, oj, hoj, hall⟩ := mem_ready.1 hj
      have hnot : ∀ e ∈ oj.after, Region.binds md e = true → e.on ≠ i := fun e he hb heq => by
        have h2 := hall e he hb
        rw [heq, getD_both (mem_ready.1 hr).1] at h2
        cases h2
      have hap := hfree j oj hoj hji hjun hnot
      obtain ⟨p1, p2, p3⟩ := Oper.apart_spec hap
      have h2 := wpOp_put' (Y := fun a => YieldsE P ops CQ oi v a) hoj hap (fun cs b => hsel j oj cs b hoj) hQ
        (fun a u hy => hy.of_same (execOp_put oi (fun cs b => hsel i oi cs b hi) a oj.dst u p3) (wanted_put oi a oj.dst u p3)) (fun a d hy => hy.of_same rfl rfl) hy h1
      refine wpOp_mono (fun a' w2 ⟨hy', CQ', q1, q2, q3, q4⟩ => ⟨CQ', q1, q2, q3, ih CQ' (listed.setIfInBounds j true) a' w2 q1 q3 (fun k ok hk hki hun hno => ?_) (ready_mono hr (Ne.symm hji)) (hy'.mono (q2.resolve_right fun hl => not_both hl hji hr hj)) ?_⟩) h2
      · refine hfree k ok hk hki ?_ hno
        by_cases hjk : j = k
        · subst hjk; exact hjun
        · rw [getD_set_ne true hjk] at hun; exact hun
      · rw [Array.setIfInBounds_comm _ _ hji]; exact q4

/-- An order in which the operations may be walked: (i, false): i only reads and may be taken first; (i, true): nothing else may come now. -/
def orderB (md : Region.Mode) (ops : Array Oper) : List (Nat × Bool) → Array Bool → Bool
  | [], listed => (Region.ready md ops listed).isEmpty
  | (i, false) :: l, listed => (Region.ready md ops listed).contains i && Region.free md ops listed i && orderB md ops l (listed.setIfInBounds i true)
  | (i, true) :: l, listed => decide (Region.ready md ops listed = [i]) && orderB md ops l (listed.setIfInBounds i true)

/-- The walk in that order. -/
def wpO (P : Program) (ops : Array Oper) (Q : Exit → Act → World → Prop) : List (Nat × Bool) → (World → Prop) → Act → World → Prop
  | [], _, a, w => ∀ w', Ext w w' → Q .normal a w'
  | (i, false) :: l, CQ, a, w => ∃ o v, ops[i]? = some o ∧ YieldsE P ops CQ o v a ∧ wpO P ops Q l CQ (a.put o.dst v) w
  | (i, true) :: l, CQ, a, w => ∀ w', Ext w w' → wpOp P ops Q i (fun a' w'' => ∃ CQ' : World → Prop, Shut CQ' ∧ ((∀ w, CQ' w → CQ w) ∨ loneB .any ops i = true) ∧ CQ' w'' ∧ wpO P ops Q l CQ' a' w'') a w'

theorem E_of_O (hsel : Region.noSelect ops = true) (hQ : ∀ c a w, ¬ Q (.panic c) a w) : ∀ (l : List (Nat × Bool)) (CQ : World → Prop) (listed : Array Bool) (a : Act) (w : World), Shut CQ → CQ w →
    orderB .any ops l listed = true → wpO P ops Q l CQ a w → wpE P .any ops Q l.length CQ listed a w
  | [], _, _, _, _, _, _, hB, h => fun w' e' => ⟨by simpa [orderB] using hB, h w' e'⟩
  | (i, false) :: l, CQ, listed, a, w, hS, hw, hB, h => by
    simp only [orderB, Bool.and_eq_true] at hB
    obtain ⟨⟨hr, hf⟩, hB'⟩ := hB
    obtain ⟨o, v, ho, hy, hK⟩ := h
    exact E_first ho (Region.noSelect_spec hsel) (fun c a w h => absurd h (hQ _ _ _)) _ CQ listed a w hS hw (Region.free_spec ho hf) (by simpa using hr) hy
      (E_of_O hsel hQ l CQ _ _ w hS hw hB' hK)
  | (i, true) :: l, CQ, listed, a, w, hS, hw, hB, h => by
    simp only [orderB, Bool.and_eq_true, decide_eq_true_eq] at hB
    intro w' e'
    refine ⟨fun h1 => (by rw [hB.1] at h1; cases h1), fun j hj => ?_⟩
    rw [hB.1] at hj
    have hij : j = i := by simpa using hj
    subst hij
    exact wpOp_mono (fun a' w'' ⟨CQ', q1, q2, q3, q4⟩ => ⟨CQ', q1, q2, q3, E_of_O hsel hQ l CQ' _ a' w'' q1 q3 hB.2 q4⟩) (h w' e')

theorem wp_region_order {CQ : World → Prop} {id : Nat} {a : Act} {w : World} (l : List (Nat × Bool)) (hm : P.follows .mixedOrders = true) (hsel : Region.noSelect ops = true) (hl : l.length = ops.size)
    (hB : orderB .any ops l (Array.replicate ops.size false) = true) (hQ : ∀ c a w, ¬ Q (.panic c) a w) (hS : Shut CQ)
    (hC : CQ { w with drawn := w.drawn + 1 }) (h : wpO P ops Q l CQ a { w with drawn := w.drawn + 1 }) : (Code.region id ops true).wp P Q a w := by
  refine wp_region_any hm ?_
  have := E_of_O hsel hQ l CQ _ a _ hS hC hB h
  rw [hl] at this
  exact any_of_E _ CQ _ _ _ this
end

section
variable {P : Program} {C : Cx} {N : Nat} {K : K3} {Q : Ex → K3} {env : Env} {V V0 : HV} {σ σq : Res} {ops : Array Oper} {rest : List (Nat × Bool)} {w : World}
variable {d i : Nat} {t T T' E : TypeId} {pos : String} {af : Array Edge} {g : Option (Nat × Bool)} {v : Value} {op : Op} {o : Oper}

theorem Mem.weaken {τ : Res} (m : Mem C V σ w) (h1 : Sub V0 V) (h2 : Sub C.V0 V0) (h3 : ∀ b, b < C.w0.heap.size → ¬ C.D b → V0 b = C.V0 b) (hp : σ.Perm (σq ++ τ)) : Mem C V0 σq w := by
  obtain ⟨hs, s1, s2, s3⟩ := (m.perm hp).own
  obtain ⟨ha, hb, rfl, s4, s5⟩ := s1.split
  refine ⟨m.os, m.tape, m.output, m.size, m.frame, h2, h1.trans m.view, h3, ha, s4, (List.pairwise_append.1 s2).1, fun h hh => ?_⟩
  obtain ⟨q1, q2, q3⟩ := s3 h (List.mem_append_left _ hh)
  refine ⟨q1, fun b => ?_, q3⟩
  rcases q2 b with q | q
  · exact .inl q
  · right
    cases e : V0 b with
    | none => rfl
    | some o => rw [h1 b o e] at q; cases q

/-- The walk of a region in a given order; σq: the owned pieces that no operation of the region writes. -/
def Ords (P : Program) (C : Cx) (N : Nat) (ops : Array Oper) (K : K3) (l : List (Nat × Bool)) (env : Env) (V : HV) (σ σq : Res) : Prop :=
  ∀ a w, Fr N env a → Mem C V σ w → (∃ τ, σ.Perm (σq ++ τ)) → wpO P ops (lift C N K (fun _ _ _ _ => False)) l (Mem C V σq) a w

theorem shut_mem (C : Cx) (V : HV) (σ : Res) : Shut (Mem C V σ) := fun _ _ h e => h.ext e

theorem rnil (h : K env V σ) : Ords P C N ops K [] env V σ σq := fun _ _ hf hm _ _ e => ⟨env, V, σ, hf, hm.ext e, h⟩
theorem re (ho : ops[i]? = some ⟨some d, op, t, pos, af, g⟩) (hq : QV P C ⟨some d, op, t, pos, af, g⟩ env V σq v) (hw : wantedE ⟨some d, op, t, pos, af, g⟩ ops env = true) (h : Ords P C N ops K rest (upd N env d v) V σ σq) :
    Ords P C N ops K ((i, false) :: rest) env V σ σq := fun a w hf hm hp =>
  ⟨_, v, ho, .inl ⟨by rw [hf.yielded]; exact hw, fun w' c => by rw [hf.eval]; exact quietUpon_mono (fun _ h => h.2) (hq w' c)⟩, h _ w (hf.put (some d) v) hm hp⟩
theorem rq (ho : ops[i]? = some ⟨some d, op, t, pos, af, none⟩) (hq : QV P C ⟨some d, op, t, pos, af, none⟩ env V σq v) (h : Ords P C N ops K rest (upd N env d v) V σ σq) : Ords P C N ops K ((i, false) :: rest) env V σ σq :=
  re ho hq (wantedE_none rfl) h
theorem rs (ho : ops[i]? = some ⟨some d, op, t, pos, af, g⟩) (hw : wantedE ⟨some d, op, t, pos, af, g⟩ ops env = false) (h : Ords P C N ops K rest (upd N env d undef) V σ σq) : Ords P C N ops K ((i, false) :: rest) env V σ σq := fun a w hf hm hp =>
  ⟨_, undef, ho, .inr ⟨by rw [hf.yielded]; exact hw, rfl⟩, h _ w (hf.put (some d) undef) hm hp⟩

theorem Oper.wp_monoQ {a : Act} {K K' : Act → World → Prop} {Q Q' : Exit → Act → World → Prop} (hK : ∀ a w, K a w → K' a w) (hQ : ∀ c a w, Q (.panic c) a w → Q' (.panic c) a w) (hO : LetsOut Q → LetsOut Q')
    (h : Oper.wp P o a w K Q) : Oper.wp P o a w K' Q' := by
  unfold Oper.wp at *
  generalize (execOp a.eval o).run P w = r at *
  cases r with
  | ok n w' =>
    cases n <;> simp only [Oper.upon] at h ⊢
    case value u => exact hK _ _ h
    case skip => exact hK _ _ h
    case defer d => exact hK _ _ h
    case enter f args =>
      refine Calls.mono h fun e w'' he => ?_
      cases e with
      | returned u => exact hK _ _ he
      | panicked c => exact hQ _ _ _ he
      | outgrown => exact hO he
    case row row args => exact Rows.mono h fun u w'' he => hK _ _ he
  | halt x w' =>
    cases x <;> simp only [Oper.upon] at h ⊢
    case panic u => exact hQ _ _ _ h

theorem no_out {K : K3} : ¬ LetsOut (lift C N K (fun _ _ _ _ => False)) := by
  rintro ⟨_, _, _, _, _, _, _, h⟩; exact h

theorem wpList_one_mono {K1 K2 : K3} {a : Act} (h : ∀ a w, lift C N K1 (fun _ _ _ _ => False) .normal a w → lift C N K2 (fun _ _ _ _ => False) .normal a w)
    (hl : wpList P ops (lift C N K1 (fun _ _ _ _ => False)) [o] a w) : wpList P ops (lift C N K2 (fun _ _ _ _ => False)) [o] a w := by
  simp only [wpList] at hl ⊢
  split
  · rename_i hw
    rw [if_pos hw] at hl
    rcases hl with hl | ⟨_, hl⟩
    · exact .inl (Oper.wp_monoQ h (fun c a w ⟨_, _, _, _, _, h⟩ => h.elim) (fun h => absurd h no_out) hl)
    · exact absurd hl no_out
  · rename_i hw
    rw [if_neg hw] at hl
    exact h _ _ hl

/-- An operation in its forced place, of any kind: by the rule for a list of one. -/
theorem rl0 (ho : ops[i]? = some o)
    (h : Ops P C N ops (fun e' V' σ' => ∃ σq' τ', σ'.Perm (σq' ++ τ') ∧ ((Sub V V' ∧ ∃ ρ, σq'.Perm (σq ++ ρ)) ∨ loneB .any ops i = true) ∧ Ords P C N ops K rest e' V' σ' σq') [o] env V σ) : Ords P C N ops K ((i, true) :: rest) env V σ σq := fun a w hf hm hp w' e' => by
  have hm' := hm.ext e'
  have hl := h a w' hf hm'
  have fin : ∀ a'' w'', lift C N (fun e' V' σ' => ∃ σq' τ', σ'.Perm (σq' ++ τ') ∧ ((Sub V V' ∧ ∃ ρ, σq'.Perm (σq ++ ρ)) ∨ loneB .any ops i = true) ∧ Ords P C N ops K rest e' V' σ' σq') (fun _ _ _ _ => False) .normal a'' w'' →
      ∃ CQ' : World → Prop, Shut CQ' ∧ ((∀ w, CQ' w → Mem C V σq w) ∨ loneB .any ops i = true) ∧ CQ' w'' ∧ wpO P ops (lift C N K (fun _ _ _ _ => False)) rest CQ' a'' w'' := by
    rintro a'' w'' ⟨env', V', σ', hf', hm2, σq', τ', h2, h3, h4⟩
    exact ⟨Mem C V' σq', shut_mem _ _ _, h3.imp (fun ⟨h1, ρ, h3⟩ w c => c.weaken h1 hm.sub hm.vold h3) id, hm2.weaken (Sub.refl _) hm2.sub hm2.vold h2, h4 _ _ hf' hm2 ⟨τ', h2⟩⟩
  unfold wpOp
  simp only [ho]
  simp only [wpList] at hl
  split
  · rename_i hw
    rw [if_pos hw] at hl
    rcases hl with hl | ⟨_, hl⟩
    · exact .inl (Oper.wp_monoQ fin (fun c a w ⟨_, _, _, _, _, h⟩ => h.elim) (fun h => absurd h no_out) hl)
    · exact absurd hl no_out
  · rename_i hw
    rw [if_neg hw] at hl
    exact fin _ _ hl

theorem perm_nil {α : Type _} (l : List α) : l.Perm (l ++ []) := by rw [List.append_nil]

/-- Its pieces, as far as other operations read them, stay. -/
theorem rl (ho : ops[i]? = some o)
    (h : Ops P C N ops (fun e' V' σ' => ∃ σq' τ', Sub V V' ∧ σ'.Perm (σq' ++ τ') ∧ (∃ ρ, σq'.Perm (σq ++ ρ)) ∧ Ords P C N ops K rest e' V' σ' σq') [o] env V σ) : Ords P C N ops K ((i, true) :: rest) env V σ σq :=
  rl0 ho fun a w hf hm => by
    refine wpList_one_mono ?_ (h a w hf hm)
    rintro a' w' ⟨e', V', σ', h1, h2, σq', τ', h3, h4, h5, h6⟩
    exact ⟨e', V', σ', h1, h2, σq', τ', h4, .inl ⟨h3, h5⟩, h6⟩
/-- It waits for all others, or they for it. -/
theorem rl1 (hs : loneB .any ops i = true) (ho : ops[i]? = some o)
    (h : Ops P C N ops (fun e' V' σ' => ∃ σq' τ', σ'.Perm (σq' ++ τ') ∧ Ords P C N ops K rest e' V' σ' σq') [o] env V σ) : Ords P C N ops K ((i, true) :: rest) env V σ σq :=
  rl0 ho fun a w hf hm => by
    refine wpList_one_mono ?_ (h a w hf hm)
    rintro a' w' ⟨e', V', σ', h1, h2, σq', τ', h4, h6⟩
    exact ⟨e', V', σ', h1, h2, σq', τ', h4, .inr hs, h6⟩

/-- An operation in its forced place that only reads. -/
theorem rt (ho : ops[i]? = some ⟨some d, op, t, pos, af, g⟩) (hq : QV P C ⟨some d, op, t, pos, af, g⟩ env V σ v) (hw : wantedE ⟨some d, op, t, pos, af, g⟩ ops env = true) {τ : Res} (hp : σ.Perm (σq ++ τ))
    (h : Ords P C N ops K rest (upd N env d v) V σ σq) : Ords P C N ops K ((i, true) :: rest) env V σ σq :=
  rl ho (og hq hw (ops_nil ⟨σq, τ, Sub.refl _, hp, ⟨[], by simp⟩, h⟩))
theorem rts (ho : ops[i]? = some ⟨some d, op, t, pos, af, g⟩) (hw : wantedE ⟨some d, op, t, pos, af, g⟩ ops env = false) {τ : Res} (hp : σ.Perm (σq ++ τ))
    (h : Ords P C N ops K rest (upd N env d undef) V σ σq) : Ords P C N ops K ((i, true) :: rest) env V σ σq :=
  rl ho (os hw (ops_nil ⟨σq, τ, Sub.refl _, hp, ⟨[], by simp⟩, h⟩))

theorem vc_region_order {id : Nat} {l : List Oper} {τ : Res} (ord : List (Nat × Bool)) (σq : Res) (hm : P.follows .mixedOrders = true) (hp : σ.Perm (σq ++ τ))
    (hB : (Region.noSelect l.toArray && decide (ord.length = l.toArray.size) && orderB .any l.toArray ord (Array.replicate l.toArray.size false)) = true)
    (h : Ords P C N l.toArray K ord env V σ σq) : VC P C N (.region id l.toArray true) K Q env V σ := fun a w hf hmm => by
  simp only [Bool.and_eq_true, decide_eq_true_eq] at hB
  have hmd := hmm.drawn (w.drawn + 1)
  refine wp_mono (wp_region_order (CQ := Mem C V σq) (Q := lift C N K (fun _ _ _ _ => False)) ord hm hB.1.1 hB.1.2 hB.2 (fun c a w h => ?_) (shut_mem _ _ _) (hmd.weaken (Sub.refl _) hmm.sub hmm.vold hp) (h a _ hf hmd ⟨τ, hp⟩)) ?_
  · obtain ⟨_, _, _, _, _, h⟩ := h; exact h
  · rintro e a'' w'' ⟨env'', V', σ', q1, q2, hh⟩
    refine ⟨env'', V', σ', q1, q2, ?_⟩
    cases e <;> first | exact hh | exact hh.elim
end
end Go.Vc
