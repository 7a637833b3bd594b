import Derived.Deep.Quiet
import Derived.StillTail
import Derived.Deep.LoopGhost
import Derived.Below
import Derived.KernelRfl
import Derived.IntWalk
import Derived.Laws.AppendOwn
import Derived.Laws.MakeOwn
import Derived.Laws.StructEq
import Derived.Laws.CopyRow
import Derived.Laws.Cells
import Derived.Laws.Tables
/- Several texts in one. No program in sight. -/
/- A small logic over the kit's Code.wp: frames as functions, memory as an unchanging view and a list of owned pieces. No program in sight. -/
namespace Go.Vc
open Go.RowKit

/- FRAMES -/
abbrev Env := Nat → Value
@[reducible] noncomputable def upd (N : Nat) (e : Env) (d : Nat) (v : Value) : Env := fun t => Bool.rec (motive := fun _ => Value) (e t) (Bool.rec (motive := fun _ => Value) (e t) v (Nat.ble (Nat.succ d) N)) (Nat.beq t d)
theorem upd_bif (N : Nat) (e : Env) (d : Nat) (v : Value) (t : Nat) : upd N e d v t = bif (Nat.beq t d && Nat.blt d N) then v else e t := by
  show Bool.rec (motive := fun _ => Value) (e t) (Bool.rec (motive := fun _ => Value) (e t) v (Nat.blt d N)) (Nat.beq t d) = _
  cases Nat.beq t d <;> cases Nat.blt d N <;> rfl
@[reducible] noncomputable def updO (N : Nat) (e : Env) (d : Option Nat) (v : Value) : Env := match d with | some d => upd N e d v | none => e
@[reducible] def ev (e : Env) : Operand → Value
  | .tmp t => e t
  | .const v => v
  | .global g => .pointer (some ⟨g, 0, none⟩)
  | .func f => .func (.func f) #[] #[]

structure Fr (N : Nat) (e : Env) (a : Act) : Prop where
  defers : a.defers = []
  size : a.tmps.size = N
  get : ∀ t, a.tmps.getD t undef = e t

theorem Fr.eval {N : Nat} {e : Env} {a : Act} (h : Fr N e a) : a.eval = ev e := by
  funext x; cases x <;> simp [Act.eval, ev, h.get]

theorem getD_setIf (xs : Array Value) (d : Nat) (v : Value) (t : Nat) :
    (xs.setIfInBounds d v).getD t undef = bif (Nat.beq t d && Nat.blt d xs.size) then v else xs.getD t undef := by
  by_cases h1 : t = d
  · subst h1
    by_cases h2 : t < xs.size
    · have hb : Nat.blt t xs.size = true := by simp [Nat.blt_eq, h2]
      simp [Array.getD, h2, hb]
    · have hb : Nat.blt t xs.size = false := by
        rw [← Bool.not_eq_true, Nat.blt_eq]; exact h2
      simp [Array.getD, h2, hb]
  · have hb : Nat.beq t d = false := by
      rw [← Bool.not_eq_true, Nat.beq_eq]; exact h1
    rw [hb]
    simp only [Bool.false_and, cond_false, Array.getD, Array.size_setIfInBounds]
    by_cases h2 : t < xs.size
    · have : d ≠ t := fun e => h1 e.symm
      simp [h2, this]
    · simp [h2]

theorem Fr.put {N : Nat} {e : Env} {a : Act} (h : Fr N e a) (d : Option Nat) (v : Value) : Fr N (updO N e d v) (a.put d v) := by
  cases d with
  | none => exact h
  | some d =>
    refine ⟨h.defers, by simp [Act.put, h.size], fun t => ?_⟩
    have hs := h.size
    subst hs
    show (a.tmps.setIfInBounds d v).getD t undef = upd a.tmps.size e d v t
    rw [upd_bif, getD_setIf, h.get]

def yieldE (ops : Array Oper) (e : Env) (j : Nat) : Option Bool :=
  match (ops[j]?).bind (·.dst) with
  | some d => (match e d with | .bool b => some b | _ => none)
  | none => none

theorem Fr.yielded {N : Nat} {e : Env} {a : Act} (h : Fr N e a) (ops : Array Oper) : yielded ops a.tmps = yieldE ops e := by
  funext j
  unfold Go.yielded yieldE
  cases hd : (ops[j]?).bind (·.dst) with
  | none => rfl
  | some d =>
    simp only [Option.bind_some]
    have := h.get d
    by_cases hl : d < a.tmps.size
    · rw [Array.getElem?_eq_getElem hl]
      simp only [Array.getD, hl, dite_true] at this
      have e2 : a.tmps[d] = e d := this
      rw [e2]
      cases e d <;> rfl
    · rw [Array.getElem?_eq_none (Nat.le_of_not_lt hl)]
      simp only [Array.getD, hl, dite_false] at this
      rw [← this]; rfl

/- HEAPS -/
abbrev HV := Nat → Option Obj
def hv (w : World) : HV := fun b => w.heap[b]?
def Sub (g h : HV) : Prop := ∀ b o, g b = some o → h b = some o
def Disj (g h : HV) : Prop := ∀ b, g b = none ∨ h b = none
abbrev Asrt := HV → Prop
abbrev Res := List Asrt
def one (b : Nat) (o : Obj) : HV := fun c => if c = b then some o else none
def plus (g h : HV) : HV := fun b => match g b with | some o => some o | none => h b

theorem Sub.refl (g : HV) : Sub g g := fun _ _ h => h
theorem Sub.trans {f g h : HV} (h1 : Sub f g) (h2 : Sub g h) : Sub f h := fun b o hb => h2 b o (h1 b o hb)
theorem Disj.symm {g h : HV} (d : Disj g h) : Disj h g := fun b => (d b).symm
theorem sub_plus_left (g h : HV) : Sub g (plus g h) := fun b o hb => by simp [plus, hb]
theorem sub_plus_right {g h : HV} (d : Disj g h) : Sub h (plus g h) := fun b o hb => by
  rcases d b with e | e
  · simp [plus, e, hb]
  · rw [e] at hb; cases hb
theorem sub_plus {g h k : HV} (h1 : Sub g k) (h2 : Sub h k) : Sub (plus g h) k := fun b o hb => by
  unfold plus at hb
  cases e : g b with
  | some o' => simp only [e] at hb; cases hb; exact h1 _ _ e
  | none => simp only [e] at hb; exact h2 _ _ hb
theorem hv_lt {w : World} {b : Nat} {o : Obj} (h : hv w b = some o) : b < w.heap.size := by
  unfold hv at h
  rcases Nat.lt_or_ge b w.heap.size with h1 | h1
  · exact h1
  · rw [Array.getElem?_eq_none h1] at h; cases h

def Sat : Res → List HV → Prop
  | [], [] => True
  | A :: σ, h :: hs => A h ∧ Sat σ hs
  | _, _ => False

def dom (hs : List HV) : Nat → Prop := fun b => ∃ h ∈ hs, h b ≠ none

/-- The call's own frame: its program, the world, the view and the owned blocks when it began. -/
structure Cx where
  w0 : World
  V0 : HV
  D : Nat → Prop

structure Mem (C : Cx) (V : HV) (σ : Res) (w : World) : Prop where
  os : w.os = C.w0.os
  tape : w.tape = C.w0.tape
  output : w.output = C.w0.output
  dr : C.w0.drawn ≤ w.drawn
  size : C.w0.heap.size ≤ w.heap.size
  frame : ∀ b, b < C.w0.heap.size → ¬ C.D b → w.heap[b]? = C.w0.heap[b]?
  sub : Sub C.V0 V
  view : Sub V (hv w)
  vold : ∀ b, b < C.w0.heap.size → ¬ C.D b → V b = C.V0 b
  own : ∃ hs, Sat σ hs ∧ hs.Pairwise Disj ∧ ∀ h ∈ hs, Sub h (hv w) ∧ Disj h V ∧ ∀ b, b < C.w0.heap.size → h b ≠ none → C.D b

theorem Mem.drawn {C : Cx} {V : HV} {σ : Res} {w : World} (m : Mem C V σ w) (n : Nat) (hn : w.drawn ≤ n := by first | exact Nat.le_succ _ | exact Nat.le_add_right _ _) : Mem C V σ { w with drawn := n } :=
  ⟨m.os, m.tape, m.output, Nat.le_trans m.dr hn, m.size, m.frame, m.sub, m.view, m.vold, m.own⟩

/-- What was there stays; new blocks may have come. -/
structure Ext (w w' : World) : Prop extends Below w.heap.size w w' where
  dr : w.drawn ≤ w'.drawn

theorem Ext.refl (w : World) : Ext w w := ⟨Below.refl _ _, Nat.le_refl _⟩
theorem Ext.hv {w w' : World} (h : Ext w w') : Sub (hv w) (hv w') := fun b o hb => by
  have := h.block b (hv_lt hb)
  unfold Go.Vc.hv at *; rw [this]; exact hb
theorem Ext.trans {a b c : World} (h : Ext a b) (k : Ext b c) : Ext a c := ⟨Below.trans h.toBelow (Below.mono k.toBelow h.size), Nat.le_trans h.dr k.dr⟩

theorem Mem.ext {C : Cx} {V : HV} {σ : Res} {w w' : World} (m : Mem C V σ w) (h : Ext w w') : Mem C V σ w' := by
  obtain ⟨hs, h1, h2, h3⟩ := m.own
  refine ⟨h.os.trans m.os, h.tape.trans m.tape, h.output.trans m.output, Nat.le_trans m.dr h.dr, Nat.le_trans m.size h.size, fun b hb hd => ?_, m.sub, m.view.trans h.hv, m.vold,
    hs, h1, h2, fun x hx => ⟨(h3 x hx).1.trans h.hv, (h3 x hx).2⟩⟩
  rw [h.block b (Nat.lt_of_lt_of_le hb m.size)]; exact m.frame b hb hd

/- CODE -/
inductive Ex where
  | exit (id : Nat)
  | goto (l : Nat)
  | ret

abbrev K3 := Env → HV → Res → Prop

def lift (C : Cx) (N : Nat) (K : K3) (Q : Ex → K3) : Exit → Act → World → Prop := fun e a w =>
  ∃ env V σ, Fr N env a ∧ Mem C V σ w ∧ match e with
    | .normal => K env V σ
    | .exit id => Q (.exit id) env V σ
    | .goto l => Q (.goto l) env V σ
    | .ret => Q .ret env V σ
    | _ => False

def VC (P : Program) (C : Cx) (N : Nat) (c : Code) (K : K3) (Q : Ex → K3) (env : Env) (V : HV) (σ : Res) : Prop :=
  ∀ a w, Fr N env a → Mem C V σ w → c.wp P (lift C N K Q) a w

section
variable {P : Program} {C : Cx} {N : Nat} {K : K3} {Q : Ex → K3} {env : Env} {V : HV} {σ : Res}

theorem vc_skip (h : K env V σ) : VC P C N .skip K Q env V σ := fun _ _ hf hm => wp_skip ⟨_, _, _, hf, hm, h⟩
theorem vc_exit {id : Nat} (h : Q (.exit id) env V σ) : VC P C N (.exit id) K Q env V σ := fun _ _ hf hm => wp_exit ⟨_, _, _, hf, hm, h⟩
theorem vc_ret (h : Q .ret env V σ) : VC P C N .ret K Q env V σ := fun _ _ hf hm => wp_ret ⟨_, _, _, hf, hm, h⟩

theorem vc_seq {x y : Code} (h : VC P C N x (fun e V σ => VC P C N y K Q e V σ) Q env V σ) : VC P C N (.seq x y) K Q env V σ := fun a w hf hm => by
  refine wp_seq (wp_mono (h a w hf hm) ?_)
  rintro e a' w' ⟨env', V', σ', hf', hm', hh⟩
  cases e with
  | normal => exact hh _ _ hf' hm'
  | exit id => exact ⟨env', V', σ', hf', hm', hh⟩
  | goto l => exact ⟨env', V', σ', hf', hm', hh⟩
  | ret => exact ⟨env', V', σ', hf', hm', hh⟩
  | panic ch => exact hh.elim
  | outgrown => exact hh.elim

theorem vc_mono {c : Code} {K' : K3} {Q' : Ex → K3} (h : VC P C N c K Q env V σ) (hk : ∀ e V σ, K e V σ → K' e V σ) (hq : ∀ x e V σ, Q x e V σ → Q' x e V σ) :
    VC P C N c K' Q' env V σ := fun a w hf hm => by
  refine wp_mono (h a w hf hm) ?_
  rintro e a' w' ⟨env', V', σ', hf', hm', hh⟩
  refine ⟨env', V', σ', hf', hm', ?_⟩
  cases e <;> first | exact hk _ _ _ hh | exact hq _ _ _ _ hh | exact hh

theorem vc_cond {c : Operand} {x y : Code} {t : Bool} (hc : ev env c = .bool t) (ht : t = true → VC P C N x K Q env V σ) (hf : t = false → VC P C N y K Q env V σ) :
    VC P C N (.cond c x y) K Q env V σ := fun a w hfr hm => by
  refine wp_cond_split (t := t) (by rw [hfr.eval]; exact hc) (fun h => ht h a w hfr hm) (fun h => hf h a w hfr hm)

def blockQ (id : Nat) (K : K3) (Q : Ex → K3) : Ex → K3
  | .exit id' => if id' = id then K else Q (.exit id')
  | e => Q e

theorem blockQ_hit {id : Nat} (h : K env V σ) : blockQ id K Q (.exit id) env V σ := by simp only [blockQ, if_true]; exact h
theorem blockQ_miss {id id' : Nat} (hn : Nat.beq id' id = false) (h : Q (.exit id') env V σ) : blockQ id K Q (.exit id') env V σ := by
  have : id' ≠ id := fun e => by rw [← Nat.beq_eq] at e; rw [hn] at e; cases e
  simp only [blockQ, this, if_false]; exact h
theorem blockQ_ret {id : Nat} (h : Q .ret env V σ) : blockQ id K Q .ret env V σ := h

theorem vc_block {id : Nat} {c : Code} (h : VC P C N c K (blockQ id K Q) env V σ) : VC P C N (.block id c) K Q env V σ := fun a w hf hm => by
  refine wp_block (wp_mono (h a w hf hm) ?_)
  rintro e a' w' ⟨env', V', σ', hf', hm', hh⟩
  cases e with
  | normal => exact ⟨env', V', σ', hf', hm', hh⟩
  | exit id' =>
    simp only [blockQ] at hh
    by_cases h1 : id' = id
    · simp only [h1, if_true] at hh; simp only [Exit.inBlock, h1, if_true]; exact ⟨env', V', σ', hf', hm', hh⟩
    · simp only [h1, if_false] at hh; simp only [Exit.inBlock, h1, if_false]; exact ⟨env', V', σ', hf', hm', hh⟩
  | goto l => exact ⟨env', V', σ', hf', hm', hh⟩
  | ret => exact ⟨env', V', σ', hf', hm', hh⟩
  | panic ch => exact hh.elim
  | outgrown => exact hh.elim

/- slots -/
@[reducible] noncomputable def upds (N : Nat) : List (Nat × Value) → Env → Env
  | [], e => e
  | (t, v) :: r, e => upd N (upds N r e) t v
def Has (e : Env) : List (Nat × Value) → Prop
  | [] => True
  | (t, v) :: r => e t = v ∧ Has e r

theorem upd_eta {N : Nat} {e : Env} {t : Nat} {v : Value} (h : e t = v) : upd N e t v = e := by
  funext s
  rw [upd_bif]
  cases hb : (Nat.beq s t && Nat.blt t N) with
  | false => rfl
  | true =>
    simp only [Bool.and_eq_true, Nat.beq_eq] at hb
    simp only [cond_true]; rw [hb.1, h]
theorem upds_eta {N : Nat} {e : Env} : ∀ {l : List (Nat × Value)}, Has e l → upds N l e = e
  | [], _ => rfl
  | (t, v) :: r, h => by
    show upd N (upds N r e) t v = e
    rw [upds_eta h.2]; exact upd_eta h.1

/-- A loop: its state is an x of any type; the slots that matter are written out as functions of x. -/
theorem vc_loop {α : Type} {c : Code} (S : α → List (Nat × Value)) (I : α → HV → Res → Prop) (μ : α → Nat) (x0 : α) (hs : Has env (S x0)) (h0 : I x0 V σ)
    (round : ∀ x e V σ, I x V σ → VC P C N c (fun e' V' σ' => ∃ x', Has e' (S x') ∧ I x' V' σ' ∧ μ x' < μ x) Q (upds N (S x) e) V σ) : VC P C N (.loop c) K Q env V σ := fun a w hf hm => by
  refine wp_loop_ghost (fun n a w => ∃ x env V σ, μ x = n ∧ Has env (S x) ∧ I x V σ ∧ Fr N env a ∧ Mem C V σ w) (μ x0) ⟨x0, env, V, σ, rfl, hs, h0, hf, hm⟩ ?_
  rintro n a w ⟨x, env, V, σ, rfl, hs, hI, hf, hm⟩
  have hr := round x env V σ hI
  rw [upds_eta hs] at hr
  refine wp_mono (hr a w hf hm) ?_
  rintro e a' w' ⟨env', V', σ', hf', hm', hh⟩
  cases e with
  | normal =>
    obtain ⟨x', hs', hI', hlt⟩ := hh
    exact ⟨μ x', hlt, x', env', V', σ', rfl, hs', hI', hf', hm'⟩
  | exit id => exact ⟨env', V', σ', hf', hm', hh⟩
  | goto l => exact ⟨env', V', σ', hf', hm', hh⟩
  | ret => exact ⟨env', V', σ', hf', hm', hh⟩
  | panic ch => exact hh.elim
  | outgrown => exact hh.elim

/-- The ways through a piece of code meet: only what is said of x goes on. -/
theorem vc_join {α : Type} {c : Code} (S : α → List (Nat × Value)) (I : α → HV → Res → Prop)
    (h : VC P C N c (fun e V σ => ∃ x, Has e (S x) ∧ I x V σ) Q env V σ) (k : ∀ x e V σ, I x V σ → K (upds N (S x) e) V σ) : VC P C N c K Q env V σ :=
  vc_mono h (fun e V σ ⟨x, hs, hI⟩ => by have := k x e V σ hI; rwa [upds_eta hs] at this) (fun _ _ _ _ h => h)

end

/- REGIONS -/
def wantedE (o : Oper) (ops : Array Oper) (e : Env) : Bool := Region.wanted o (yieldE ops e)

theorem wantedE_none {o : Oper} {ops : Array Oper} {e : Env} (h : o.guard = none) : wantedE o ops e = true := by simp [wantedE, Region.wanted, h]

/-- ONE OPERATION that leaves the world as it is (or calls a function that does): the value, the same in every world of the kind. -/
def QV (P : Program) (C : Cx) (o : Oper) (env : Env) (V : HV) (σ : Res) (v : Value) : Prop :=
  ∀ w, Mem C V σ w → Oper.quietUpon P (fun w' => Mem C V σ w' ∧ Ext w w') w v ((execOp (ev env) o).run P w)

theorem quietUpon_mono {P : Program} {A B : World → Prop} {w : World} {v : Value} {r : Result Next} (h : ∀ w, A w → B w) (q : Oper.quietUpon P A w v r) : Oper.quietUpon P B w v r := by
  cases r with
  | ok n w' =>
    cases n <;> simp only [Oper.quietUpon] at q ⊢
    case value u => exact q
    case skip => exact q
    case enter f args => exact ⟨q.1, q.2.mono fun _ _ ⟨h1, h2⟩ => ⟨h1, h _ h2⟩⟩
  | halt x w' => exact q

/-- The operations of a region in the order of the text. -/
def Ops (P : Program) (C : Cx) (N : Nat) (ops : Array Oper) (K : K3) (l : List Oper) (env : Env) (V : HV) (σ : Res) : Prop :=
  ∀ a w, Fr N env a → Mem C V σ w → wpList P ops (lift C N K (fun _ _ _ _ => False)) l a w

/-- The same where nothing is written and any order may come. -/
def Qops (P : Program) (C : Cx) (N : Nat) (ops : Array Oper) (V : HV) (σ : Res) (K : Env → Prop) (l : List Oper) (env : Env) : Prop :=
  ∀ a, Fr N env a → wpQuiet P ops (Mem C V σ) (fun a' => ∃ env', Fr N env' a' ∧ K env') l a

section
variable {P : Program} {C : Cx} {N : Nat} {K : K3} {Q : Ex → K3} {env : Env} {V : HV} {σ : Res} {ops : Array Oper} {rest : List Oper} {o : Oper} {v : Value}

theorem ops_nil (h : K env V σ) : Ops P C N ops K [] env V σ := fun _ _ hf hm => wpList_nil ⟨_, _, _, hf, hm, h⟩

theorem ops_q (hq : QV P C o env V σ v) (hw : wantedE o ops env = true) (h : Ops P C N ops K rest (updO N env o.dst v) V σ) : Ops P C N ops K (o :: rest) env V σ := fun a w hf hm => by
  refine wpList_step fun K' hK' => ?_
  rw [hf.yielded, if_pos (show Region.wanted o (yieldE ops env) = true from hw)]
  refine Oper.wp_of_quiet (C := Mem C V σ) (K := fun a' => a' = a.put o.dst v) hm (fun a' w' hm' e => ?_) ⟨v, fun w' hm' => ?_, rfl⟩
  · subst e; exact hK' _ _ (h _ _ (hf.put _ _) hm')
  · unfold Oper.quietAt; rw [hf.eval]; exact quietUpon_mono (fun _ h => h.1) (hq w' hm')

theorem ops_skip (hw : wantedE o ops env = false) (h : Ops P C N ops K rest (updO N env o.dst undef) V σ) : Ops P C N ops K (o :: rest) env V σ := fun a w hf hm => by
  refine wpList_step fun K' hK' => ?_
  rw [hf.yielded, if_neg (by unfold wantedE at hw; rw [hw]; exact Bool.false_ne_true)]
  exact hK' _ _ (h _ _ (hf.put _ _) hm)

theorem qops_nil {K : Env → Prop} (h : K env) : Qops P C N ops V σ K [] env := fun _ hf => wpQuiet_nil ⟨_, hf, h⟩

theorem qops_q {K : Env → Prop} (hq : QV P C o env V σ v) (hw : wantedE o ops env = true) (h : Qops P C N ops V σ K rest (updO N env o.dst v)) : Qops P C N ops V σ K (o :: rest) env := fun a hf => by
  refine wpQuiet_step fun K' hK' => ?_
  rw [hf.yielded, if_pos (show Region.wanted o (yieldE ops env) = true from hw)]
  refine ⟨v, fun w' hm' => ?_, hK' _ (h _ (hf.put _ _))⟩
  unfold Oper.quietAt; rw [hf.eval]; exact quietUpon_mono (fun _ h => h.1) (hq w' hm')

theorem qops_skip {K : Env → Prop} (hw : wantedE o ops env = false) (h : Qops P C N ops V σ K rest (updO N env o.dst undef)) : Qops P C N ops V σ K (o :: rest) env := fun a hf => by
  refine wpQuiet_step fun K' hK' => ?_
  rw [hf.yielded, if_neg (by unfold wantedE at hw; rw [hw]; exact Bool.false_ne_true)]
  exact hK' _ (h _ (hf.put _ _))

theorem wpQuiet_mono {CC : World → Prop} {A B : Act → Prop} (h : ∀ a, A a → B a) : ∀ (l : List Oper) (a : Act), wpQuiet P ops CC A l a → wpQuiet P ops CC B l a
  | [], a, hh => h a hh
  | o :: l, a, hh => by
    simp only [wpQuiet] at hh ⊢
    split
    · rename_i hw
      rw [if_pos hw] at hh
      exact Oper.quiet_mono (fun a => wpQuiet_mono h l a) hh
    · rename_i hw
      rw [if_neg hw] at hh
      exact wpQuiet_mono h l _ hh

theorem vc_region {id : Nat} {l : List Oper} (h : Ops P C N l.toArray K l env V σ) : VC P C N (.region id l.toArray false) K Q env V σ := fun a w hf hm => by
  refine wp_mono (wp_region_lit (h a w hf hm)) ?_
  rintro e a' w' ⟨env', V', σ', hf', hm', hh⟩
  refine ⟨env', V', σ', hf', hm', ?_⟩
  cases e <;> first | exact hh | exact hh.elim

theorem vc_region_any {id : Nat} {l : List Oper} (hm : P.follows .mixedOrders = true) (hB : Region.lexB .any l.toArray = true)
    (h : Qops P C N l.toArray V σ (fun e => K e V σ) l env) : VC P C N (.region id l.toArray true) K Q env V σ := fun a w hf hmm => by
  refine wp_region_quiet (C := Mem C V σ) hm hB (hmm.drawn _) ?_
  have h' := h a hf
  simp only at h' ⊢
  refine wpQuiet_mono ?_ _ _ h'
  rintro a' ⟨env', hf', hk⟩ w' hm'
  exact ⟨env', V, σ, hf', hm', hk⟩
end
end Go.Vc

/- Contracts of functions, and calls, in the small logic of Vc. No program in sight. -/
namespace Go.Vc
open Go.RowKit

theorem Sat.append : ∀ {σ τ : Res} {hs ks : List HV}, Sat σ hs → Sat τ ks → Sat (σ ++ τ) (hs ++ ks)
  | [], _, [], _, _, h2 => h2
  | _ :: _, _, _ :: _, _, h1, h2 => ⟨h1.1, h1.2.append h2⟩
  | [], _, _ :: _, _, h1, _ => h1.elim
  | _ :: _, _, [], _, h1, _ => h1.elim

theorem Sat.split : ∀ {σ τ : Res} {hs : List HV}, Sat (σ ++ τ) hs → ∃ a b, hs = a ++ b ∧ Sat σ a ∧ Sat τ b
  | [], _, hs, h => ⟨[], hs, rfl, trivial, h⟩
  | _ :: σ, τ, x :: hs, h => by
    obtain ⟨a, b, e, h1, h2⟩ := Sat.split (σ := σ) (τ := τ) h.2
    exact ⟨x :: a, b, by rw [e]; rfl, ⟨h.1, h1⟩, h2⟩
  | _ :: _, _, [], h => h.elim

theorem Sat.perm {σ τ : Res} (p : σ.Perm τ) : ∀ {hs : List HV}, Sat σ hs → ∃ ks, hs.Perm ks ∧ Sat τ ks := by
  induction p with
  | nil => intro hs h; exact ⟨hs, .refl _, h⟩
  | cons A _ ih =>
    intro hs h
    match hs, h with
    | x :: hs, h =>
      obtain ⟨ks, p, h2⟩ := ih h.2
      exact ⟨x :: ks, p.cons x, h.1, h2⟩
  | swap A B l =>
    intro hs h
    match hs, h with
    | x :: y :: hs, h => exact ⟨y :: x :: hs, .swap _ _ _, h.2.1, h.1, h.2.2⟩
  | trans _ _ ih1 ih2 =>
    intro hs h
    obtain ⟨k1, p1, h1⟩ := ih1 h
    obtain ⟨k2, p2, h2⟩ := ih2 h1
    exact ⟨k2, p1.trans p2, h2⟩

theorem pairwise_perm {hs ks : List HV} (p : hs.Perm ks) (h : hs.Pairwise Disj) : ks.Pairwise Disj :=
  (p.pairwise_iff (fun d => d.symm)).1 h

theorem Mem.perm {C : Cx} {V : HV} {σ τ : Res} {w : World} (m : Mem C V σ w) (p : σ.Perm τ) : Mem C V τ w := by
  obtain ⟨hs, h1, h2, h3⟩ := m.own
  obtain ⟨ks, q, h4⟩ := h1.perm p
  exact ⟨m.os, m.tape, m.output, m.dr, m.size, m.frame, m.sub, m.view, m.vold, ks, h4, pairwise_perm q h2, fun h hh => h3 h (q.mem_iff.2 hh)⟩

/-- A function that has a body. -/
def FnOk (P : Program) (f : FuncId) : Prop := ∃ fn, P.funcs[f]? = some fn ∧ (fn.name == "runtime.NumGoroutine") = false ∧ fn.body.isNone = false

structure FnC (P : Program) (f : FuncId) (args : List Value) (V0 : HV) (σ0 : Res) (Φ : Value → HV → Res → Prop) : Prop where
  ok : FnOk P f
  run : ∀ w0 hs0, Sat σ0 hs0 → hs0.Pairwise Disj → Sub V0 (hv w0) → (∀ h ∈ hs0, Sub h (hv w0) ∧ Disj h V0) →
    Calls P f args.toArray w0 fun e w' => ∃ v V' σ', e = .returned v ∧ Φ v V' σ' ∧ Mem ⟨w0, V0, dom hs0⟩ V' σ' w'

theorem FnC.mono {P : Program} {f : FuncId} {args : List Value} {V0 : HV} {σ0 : Res} {Φ Ψ : Value → HV → Res → Prop} (h : FnC P f args V0 σ0 Φ)
    (hm : ∀ v V σ, Sub V0 V → Φ v V σ → Ψ v V σ) : FnC P f args V0 σ0 Ψ :=
  ⟨h.ok, fun w0 hs0 h1 h2 h3 h4 => (h.run w0 hs0 h1 h2 h3 h4).mono fun _ _ ⟨v, V', σ', h5, h6, h7⟩ => ⟨v, V', σ', h5, hm _ _ _ h7.sub h6, h7⟩⟩

theorem FnC.boolI {P : Program} {f : FuncId} {args : List Value} {V0 : HV} {σ0 : Res} {q : Prop} {i1 i2 : Decidable q} (h : FnC P f args V0 σ0 (fun v _ _ => v = .bool (@decide q i1))) :
    FnC P f args V0 σ0 (fun v _ _ => v = .bool (@decide q i2)) := by
  have : i1 = i2 := Subsingleton.elim _ _
  rw [← this]; exact h

/- THE END OF A BODY -/
def resultsE (rs : Array ResultVar) (env : Env) : Sem Value := do
  let vs ← rs.mapM fun
    | .tmp t => pure (env t)
    | .cell a t => do loadVar t (← asAddr (env a))
  pure (if h : vs.size = 1 then vs[0] else .tuple vs)

theorem Fr.results {N : Nat} {e : Env} {a : Act} (h : Fr N e a) (fn : Func) : Go.results fn a.tmps = resultsE fn.results e := by
  unfold Go.results resultsE
  simp only [h.get]
  rfl

def RetOk (P : Program) (C : Cx) (rs : Array ResultVar) (env : Env) (V : HV) (σ : Res) (v : Value) : Prop := ∀ w, Mem C V σ w → (resultsE rs env).run P w = .ok v w

def RetK (P : Program) (C : Cx) (rs : Array ResultVar) (Φ : Value → HV → Res → Prop) : K3 := fun env V σ => ∃ v, RetOk P C rs env V σ v ∧ Φ v V σ
def RetQ (P : Program) (C : Cx) (rs : Array ResultVar) (Φ : Value → HV → Res → Prop) : Ex → K3
  | .ret => RetK P C rs Φ
  | _ => fun _ _ _ => False

section
variable {P : Program} {C : Cx} {env : Env} {V : HV} {σ : Res} {Φ : Value → HV → Res → Prop}
theorem ret0 (h : Φ (.tuple #[]) V σ) : RetK P C #[] Φ env V σ := ⟨_, fun w _ => by simp [resultsE], h⟩
theorem ret1 {t : Nat} {v : Value} (e : env t = v) (h : Φ v V σ) : RetK P C #[.tmp t] Φ env V σ := ⟨_, fun w _ => by simp [resultsE, e], h⟩
theorem ret2 {t u : Nat} {v1 v2 : Value} (e1 : env t = v1) (e2 : env u = v2) (h : Φ (.tuple #[v1, v2]) V σ) : RetK P C #[.tmp t, .tmp u] Φ env V σ :=
  ⟨_, fun w _ => by simp [resultsE, e1, e2], h⟩
theorem ret3 {t u x : Nat} {v1 v2 v3 : Value} (e1 : env t = v1) (e2 : env u = v2) (e3 : env x = v3) (h : Φ (.tuple #[v1, v2, v3]) V σ) : RetK P C #[.tmp t, .tmp u, .tmp x] Φ env V σ :=
  ⟨_, fun w _ => by simp [resultsE, e1, e2, e3], h⟩
theorem ret4 {t u x y : Nat} {v1 v2 v3 v4 : Value} (e1 : env t = v1) (e2 : env u = v2) (e3 : env x = v3) (e4 : env y = v4) (h : Φ (.tuple #[v1, v2, v3, v4]) V σ) :
    RetK P C #[.tmp t, .tmp u, .tmp x, .tmp y] Φ env V σ := ⟨_, fun w _ => by simp [resultsE, e1, e2, e3, e4], h⟩
end

section
variable {P : Program} {C : Cx} {env : Env} {V : HV} {σ : Res} {Φ : Value → HV → Res → Prop}
theorem rq0 (h : Φ (.tuple #[]) V σ) : RetQ P C #[] Φ .ret env V σ := ret0 h
theorem rq1 {t : Nat} (v : Value) (e : env t = v) (h : Φ v V σ) : RetQ P C #[.tmp t] Φ .ret env V σ := ret1 e h
theorem rq2 {t u : Nat} (v1 v2 : Value) (e1 : env t = v1) (e2 : env u = v2) (h : Φ (.tuple #[v1, v2]) V σ) : RetQ P C #[.tmp t, .tmp u] Φ .ret env V σ := ret2 e1 e2 h
theorem rq3 {t u x : Nat} (v1 v2 v3 : Value) (e1 : env t = v1) (e2 : env u = v2) (e3 : env x = v3) (h : Φ (.tuple #[v1, v2, v3]) V σ) : RetQ P C #[.tmp t, .tmp u, .tmp x] Φ .ret env V σ := ret3 e1 e2 e3 h
theorem rq4 {t u x y : Nat} (v1 v2 v3 v4 : Value) (e1 : env t = v1) (e2 : env u = v2) (e3 : env x = v3) (e4 : env y = v4) (h : Φ (.tuple #[v1, v2, v3, v4]) V σ) :
    RetQ P C #[.tmp t, .tmp u, .tmp x, .tmp y] Φ .ret env V σ := ret4 e1 e2 e3 e4 h
end

@[reducible] def look : List Value → Nat → Value
  | [], _ => undef
  | v :: _, 0 => v
  | _ :: r, n + 1 => look r n

theorem look_getD : ∀ (l : List Value) (n k : Nat), (l ++ List.replicate k undef).toArray.getD n undef = look l n
  | [], n, k => by
    simp only [List.nil_append, look, Array.getD]
    split
    · simp
    · rfl
  | v :: l, 0, k => by simp [look, Array.getD]
  | v :: l, n + 1, k => by
    have := look_getD l n k
    simp only [Array.getD, List.size_toArray, List.cons_append, List.length_cons, look] at this ⊢
    rw [← this]
    by_cases h : n < (l ++ List.replicate k undef).length
    · rw [dif_pos h, dif_pos (by omega)]; simp
    · rw [dif_neg h, dif_neg (by omega)]

theorem entry_fr {N : Nat} {args : List Value} (hl : args.length ≤ N) : Fr N (look args) { tmps := args.toArray ++ Array.replicate (N - args.toArray.size) undef, defers := [] } := by
  refine ⟨rfl, by simp; omega, fun t => ?_⟩
  have e : args.toArray ++ Array.replicate (N - args.toArray.size) undef = (args ++ List.replicate (N - args.length) undef).toArray := by
    apply Array.ext'; simp
  show (args.toArray ++ Array.replicate (N - args.toArray.size) undef).getD t undef = _
  rw [e]; exact look_getD _ _ _

/-- A function's contract out of its body's. -/
theorem fn_intro {P : Program} {f : FuncId} {fn : Func} {c : Code} {N : Nat} {args : List Value} {V0 : HV} {σ0 : Res} {Φ : Value → HV → Res → Prop} {rs : Array ResultVar}
    (hf : P.funcs[f]? = some fn) (hname : (fn.name == "runtime.NumGoroutine") = false) (hb : fn.body = some c) (hN : fn.ntmps = N) (hr : fn.results = rs) (hl : args.length ≤ N)
    (h : ∀ w0 D, VC P ⟨w0, V0, D⟩ N c (RetK P ⟨w0, V0, D⟩ rs Φ) (RetQ P ⟨w0, V0, D⟩ rs Φ) (look args) V0 σ0) : FnC P f args V0 σ0 Φ := by
  refine ⟨⟨fn, hf, hname, by rw [hb]; rfl⟩, fun w0 hs0 h1 h2 h3 h4 => ?_⟩
  refine calls_of_wp hf hb ?_
  have hm : Mem ⟨w0, V0, dom hs0⟩ V0 σ0 w0 := ⟨rfl, rfl, rfl, Nat.le_refl _, Nat.le_refl _, fun _ _ _ => rfl, .refl _, h3, fun _ _ _ => rfl, hs0, h1, h2,
    fun h hh => ⟨(h4 h hh).1, (h4 h hh).2, fun b _ hn => ⟨h, hh, hn⟩⟩⟩
  subst hN; subst hr
  refine wp_mono (h w0 (dom hs0) _ w0 (entry_fr hl) hm) ?_
  rintro e a' w' ⟨env', V', σ', hf', hm', hh⟩
  cases e with
  | normal =>
    obtain ⟨v, h5, h6⟩ := hh
    exact ⟨hf'.defers, v, by rw [hf'.results]; exact h5 _ hm', v, V', σ', rfl, h6, hm'⟩
  | ret =>
    obtain ⟨v, h5, h6⟩ := hh
    exact ⟨hf'.defers, v, by rw [hf'.results]; exact h5 _ hm', v, V', σ', rfl, h6, hm'⟩
  | exit id => exact hh.elim
  | goto l => exact hh.elim
  | panic ch => exact hh.elim
  | outgrown => exact hh.elim

/- CALLS -/
theorem Mem.ext_of_none {w w' : World} {V V' : HV} {σ' : Res} (m : Mem ⟨w, V, dom []⟩ V' σ' w') : Ext w w' :=
  ⟨⟨m.os, m.tape, m.output, m.size, fun b hb => m.frame b hb (fun ⟨_, hh, _⟩ => by cases hh)⟩, m.dr⟩

theorem run_call {P : Program} {ρ : Operand → Value} {dst : Option Nat} {x : Operand} {l : List Operand} {at_ : Array TypeId} {t : TypeId} {pos : String} {af : Array Edge} {g : Option (Nat × Bool)}
    {f : FuncId} {cap : Array Value} (hok : FnOk P f) (hx : ρ x = .func (.func f) #[] cap) (w : World) :
    (execOp ρ ⟨dst, .call { callee := .value x, args := l.toArray, argTypes := at_ }, t, pos, af, g⟩).run P w = .ok (.enter f (l.map ρ ++ cap.toList).toArray) w := by
  obtain ⟨fn, h1, h2, h3⟩ := hok
  have e : (l.map ρ ++ cap.toList).toArray = l.toArray.map ρ ++ cap := by apply Array.ext'; simp
  rw [e]
  have h2' : fn.name ≠ "runtime.NumGoroutine" := fun h => by rw [h] at h2; exact absurd h2 (by simp)
  have h3' : fn.body ≠ none := fun h => by rw [h] at h3; cases h3
  simp [execOp, resolve, hx, Deferred.ofValue, invoke, callFunc, h1, h2', h3']

section
variable {P : Program} {C : Cx} {N : Nat} {K : K3} {env : Env} {V : HV} {σ : Res} {ops : Array Oper} {rest : List Oper}
variable {dst : Option Nat} {x : Operand} {l : List Operand} {at_ : Array TypeId} {t : TypeId} {pos : String} {af : Array Edge} {g : Option (Nat × Bool)} {f : FuncId} {cap : Array Value} {args : List Value}

/-- A call that only computes a value. -/
theorem qv_call {v : Value} (h : FnC P f args V [] (fun v' _ _ => v' = v)) (hx : ev env x = .func (.func f) #[] cap) (ha : l.map (ev env) ++ cap.toList = args) :
    QV P C ⟨dst, .call { callee := .value x, args := l.toArray, argTypes := at_ }, t, pos, af, g⟩ env V σ v := fun w hm => by
  rw [run_call h.ok hx w, ha]
  refine ⟨rfl, (h.run w [] trivial .nil hm.view (fun _ hh => by cases hh)).mono ?_⟩
  rintro e w' ⟨v', V', σ', rfl, hv, hm'⟩
  exact ⟨by rw [hv], hm.ext hm'.ext_of_none, hm'.ext_of_none⟩

theorem Mem.call {w w' : World} {σa σr σ' : Res} {hsa hsr : List HV} {V' : HV} (m : Mem C V (σa ++ σr) w) (_ha : Sat σa hsa) (hr : Sat σr hsr)
    (hp : (hsa ++ hsr).Pairwise Disj) (hh : ∀ h ∈ hsa ++ hsr, Sub h (hv w) ∧ Disj h V ∧ ∀ b, b < C.w0.heap.size → h b ≠ none → C.D b)
    (m' : Mem ⟨w, V, dom hsa⟩ V' σ' w') : Mem C V' (σ' ++ σr) w' := by
  obtain ⟨p1, p2, p3⟩ := List.pairwise_append.1 hp
  have old : ∀ b, b < C.w0.heap.size → ¬ C.D b → ¬ dom hsa b := fun b hb hd ⟨h, h1, h2⟩ => hd ((hh h (List.mem_append_left _ h1)).2.2 b hb h2)
  obtain ⟨hs', s1, s2, s3⟩ := m'.own
  refine ⟨m'.os.trans m.os, m'.tape.trans m.tape, m'.output.trans m.output, Nat.le_trans m.dr m'.dr, Nat.le_trans m.size m'.size, fun b hb hd => ?_, m.sub.trans m'.sub, m'.view, fun b hb hd => ?_, hs' ++ hsr, s1.append hr, ?_, ?_⟩
  · have := m'.frame b (Nat.lt_of_lt_of_le hb m.size) (old b hb hd)
    rw [this]; exact m.frame b hb hd
  · have := m'.vold b (Nat.lt_of_lt_of_le hb m.size) (old b hb hd)
    rw [this]; exact m.vold b hb hd
  · refine List.pairwise_append.2 ⟨s2, p2, fun h1 i1 h2 i2 b => ?_⟩
    cases e2 : h2 b with
    | none => exact .inr rfl
    | some o =>
      left
      have hb : b < w.heap.size := hv_lt ((hh h2 (List.mem_append_right _ i2)).1 b o e2)
      cases e1 : h1 b with
      | none => rfl
      | some o1 =>
        obtain ⟨h3, i3, e3⟩ := (s3 h1 i1).2.2 b hb (by rw [e1]; simp)
        rcases p3 h3 i3 h2 i2 b with q | q
        · exact absurd q e3
        · rw [e2] at q; cases q
  · intro h hi
    rcases List.mem_append.1 hi with hi | hi
    · refine ⟨(s3 h hi).1, (s3 h hi).2.1, fun b hb hn => ?_⟩
      obtain ⟨h3, i3, e3⟩ := (s3 h hi).2.2 b (Nat.lt_of_lt_of_le hb m.size) hn
      exact (hh h3 (List.mem_append_left _ i3)).2.2 b hb e3
    · obtain ⟨q1, q2, q3⟩ := hh h (List.mem_append_right _ hi)
      have nd : ∀ b o, h b = some o → b < w.heap.size ∧ ¬ dom hsa b := fun b o hb => ⟨hv_lt (q1 b o hb), fun ⟨h3, i3, e3⟩ => by
        rcases p3 h3 i3 h hi b with q | q
        · exact e3 q
        · rw [hb] at q; cases q⟩
      refine ⟨fun b o hb => ?_, fun b => ?_, q3⟩
      · have := m'.frame b (nd b o hb).1 (nd b o hb).2
        show w'.heap[b]? = _
        rw [this]; exact q1 b o hb
      · cases e : h b with
        | none => exact .inl rfl
        | some o =>
          right
          have := m'.vold b (nd b o e).1 (nd b o e).2
          rw [this]
          rcases q2 b with q | q
          · rw [e] at q; cases q
          · exact q

/-- Any call: σa is handed over, σr stays. -/
theorem ops_call {σa σr : Res} {Φ : Value → HV → Res → Prop} (h : FnC P f args V σa Φ) (hx : ev env x = .func (.func f) #[] cap) (ha : l.map (ev env) ++ cap.toList = args) (hp : σ.Perm (σa ++ σr))
    (k : ∀ v V' σ', Sub V V' → Φ v V' σ' → Ops P C N ops K rest (updO N env dst v) V' (σ' ++ σr)) :
    Ops P C N ops K (⟨dst, .call { callee := .value x, args := l.toArray, argTypes := at_ }, t, pos, af, none⟩ :: rest) env V σ := fun a w hf hm => by
  refine wpList_plain rfl fun K' hK' => ?_
  unfold Oper.wp
  rw [hf.eval, run_call h.ok hx w, ha, Oper.upon_enter]
  have hm2 := hm.perm hp
  obtain ⟨hs, h1, h2, h3⟩ := hm2.own
  obtain ⟨hsa, hsr, rfl, h4, h5⟩ := h1.split
  refine (h.run w hsa h4 (List.pairwise_append.1 h2).1 hm2.view (fun h hh => ⟨(h3 h (List.mem_append_left _ hh)).1, (h3 h (List.mem_append_left _ hh)).2.1⟩)).mono ?_
  rintro e w' ⟨v, V', σ', rfl, hΦ, hm'⟩
  exact hK' _ _ (k v V' σ' hm'.sub hΦ _ _ (hf.put _ _) (hm2.call h4 h5 h2 h3 hm'))
end
end Go.Vc

/- Owned blocks: making, writing, giving away for good. Slices that are read. No program in sight. -/
namespace Go.Vc
open Go.RowKit

/-- One owned block. -/
def Blk (b : Nat) (o : Obj) : Asrt := fun h => h = one b o
/-- One owned row of cells. -/
def Arr (T : TypeId) (b : Nat) (cs : List Value) : Asrt := Blk b (.cells cs.toArray T (0, 0))

theorem Sat.get : ∀ {σ : Res} {hs : List HV} {k : Nat} {A : Asrt}, Sat σ hs → σ[k]? = some A → ∃ h, hs[k]? = some h ∧ A h
  | A :: _, h :: _, 0, _, s, e => by cases e; exact ⟨h, rfl, s.1⟩
  | _ :: σ, _ :: hs, k + 1, A, s, e => Sat.get (σ := σ) (hs := hs) (k := k) s.2 (by simpa using e)
  | [], _, _, _, _, e => by simp at e
  | _ :: _, [], _, _, s, _ => s.elim

theorem Sat.set : ∀ {σ : Res} {hs : List HV} {k : Nat} {A : Asrt} {h : HV}, Sat σ hs → k < σ.length → A h → Sat (σ.set k A) (hs.set k h)
  | _ :: _, _ :: _, 0, _, _, s, _, a => ⟨a, s.2⟩
  | _ :: σ, _ :: hs, k + 1, _, _, s, hk, a => ⟨s.1, Sat.set (σ := σ) (hs := hs) s.2 (by simpa using hk) a⟩
  | [], _, _, _, _, _, hk, _ => by simp at hk
  | _ :: _, [], _, _, _, s, _, _ => s.elim

section
variable {P : Program} {C : Cx} {N : Nat} {K : K3} {Q : Ex → K3} {env : Env} {V : HV} {σ : Res} {ops : Array Oper} {rest : List Oper} {w : World} {b : Nat} {o : Obj} {k : Nat}

theorem Mem.blk (m : Mem C V σ w) (hk : σ[k]? = some (Blk b o)) : w.heap[b]? = some o ∧ V b = none := by
  obtain ⟨hs, h1, h2, h3⟩ := m.own
  obtain ⟨h, e, rfl⟩ := h1.get hk
  have hm : one b o ∈ hs := List.mem_of_getElem? e
  obtain ⟨q1, q2, _⟩ := h3 _ hm
  have hb : one b o b = some o := by simp [one]
  refine ⟨q1 b o hb, ?_⟩
  rcases q2 b with q | q
  · rw [hb] at q; cases q
  · exact q

/-- The owned block k turns from o to o'. -/
theorem Mem.setBlk (m : Mem C V σ w) (hk : σ[k]? = some (Blk b o)) (o' : Obj) (w' : World) (hw : w' = { w with heap := w.heap.setIfInBounds b o' }) : Mem C V (σ.set k (Blk b o')) w' := by
  subst hw
  obtain ⟨hb, hV⟩ := m.blk hk
  have hlt : b < w.heap.size := hv_lt (w := w) hb
  obtain ⟨hs, h1, h2, h3⟩ := m.own
  obtain ⟨h, e, rfl⟩ := h1.get hk
  have hkl : k < σ.length := (List.getElem?_eq_some_iff.1 hk).1
  have hkh : k < hs.length := (List.getElem?_eq_some_iff.1 e).1
  have hm : one b o ∈ hs := List.mem_of_getElem? e
  have oth : ∀ c, c ≠ b → (w.heap.setIfInBounds b o')[c]? = w.heap[c]? := fun c hc => by
    rw [Array.getElem?_setIfInBounds, if_neg (fun h => hc h.symm)]
  have hD : b < C.w0.heap.size → C.D b := fun hb' => (h3 _ hm).2.2 b hb' (by simp [one])
  have dis : ∀ i (hi : i < hs.length), i ≠ k → hs[i] b = none := fun i hi hik => by
    have hpw := List.pairwise_iff_getElem.1 h2
    have ek : hs[k] = one b o := by have := List.getElem?_eq_some_iff.1 e; exact this.2
    have hb1 : one b o b = some o := by simp [one]
    rcases Nat.lt_or_ge i k with hlt' | hge
    · rcases hpw i k hi hkh hlt' b with q | q
      · exact q
      · rw [ek, hb1] at q; cases q
    · rcases hpw k i hkh hi (by omega) b with q | q
      · rw [ek, hb1] at q; cases q
      · exact q
  refine ⟨m.os, m.tape, m.output, m.dr, by simp [m.size], fun c hc hd => ?_, m.sub, fun c x hx => ?_, m.vold, hs.set k (one b o'), h1.set hkl rfl, ?_, ?_⟩
  · show (w.heap.setIfInBounds b o')[c]? = _
    rw [oth c (fun h => hd (h ▸ hD (h ▸ hc)))]; exact m.frame c hc hd
  · show (w.heap.setIfInBounds b o')[c]? = _
    rw [oth c (fun h => by rw [h, hV] at hx; cases hx)]; exact m.view c x hx
  · refine List.pairwise_iff_getElem.2 fun i j hi hj hij c => ?_
    have hi' : i < hs.length := by simpa using hi
    have hj' : j < hs.length := by simpa using hj
    have hpw := List.pairwise_iff_getElem.1 h2 i j hi' hj' hij c
    simp only [List.getElem_set]
    by_cases h1 : k = i
    · subst h1
      have hne : ¬ k = j := by omega
      simp only [if_true, hne, if_false]
      by_cases hc : c = b
      · subst hc; exact .inr (dis j hj' (by omega))
      · exact .inl (by simp [one, hc])
    · by_cases h2 : k = j
      · subst h2
        simp only [h1, if_true, if_false]
        by_cases hc : c = b
        · subst hc; exact .inl (dis i hi' (by omega))
        · exact .inr (by simp [one, hc])
      · simp only [h1, h2, if_false]; exact hpw
  · intro h hh
    obtain ⟨i, hi, rfl⟩ := List.getElem_of_mem hh
    have hi' : i < hs.length := by simpa using hi
    simp only [List.getElem_set]
    by_cases h1 : k = i
    · subst h1
      simp only [if_true]
      refine ⟨fun c x hx => ?_, fun c => ?_, fun c hc hn => ?_⟩
      · unfold one at hx
        split at hx
        · rename_i hcb; subst hcb; cases hx
          show (w.heap.setIfInBounds c o')[c]? = _
          rw [Array.getElem?_setIfInBounds, if_pos rfl, if_pos hlt]
        · cases hx
      · by_cases hc : c = b
        · subst hc; exact .inr hV
        · exact .inl (by simp [one, hc])
      · by_cases hcb : c = b
        · subst hcb; exact hD hc
        · exact absurd (by simp [one, hcb]) hn
    · simp only [h1, if_false]
      obtain ⟨q1, q2, q3⟩ := h3 _ (List.getElem_mem hi')
      refine ⟨fun c x hx => ?_, q2, q3⟩
      show (w.heap.setIfInBounds b o')[c]? = _
      rw [oth c (fun h => by subst h; rw [dis i hi' (fun h => h1 h.symm)] at hx; cases hx)]; exact q1 c x hx

/-- A new block. -/
theorem Mem.alloc (m : Mem C V σ w) (o : Obj) (w' : World) (hw : w' = { w with heap := w.heap.push o }) : Mem C V (σ ++ [Blk w.heap.size o]) w' := by
  have hE : Ext w w' := by
    subst hw
    exact ⟨⟨rfl, rfl, rfl, by simp, fun c hc => by show (w.heap.push o)[c]? = _; rw [Array.getElem?_push, if_neg (by omega)]⟩, Nat.le_refl _⟩
  obtain ⟨hs, h1, h2, h3⟩ := (m.ext hE).own
  obtain ⟨hs', h1', _, h3'⟩ := m.own
  have m' := m.ext hE
  have hnew : (hv w') w.heap.size = some o := by subst hw; show (w.heap.push o)[w.heap.size]? = _; simp
  -- the pieces are those of before
  refine ⟨m'.os, m'.tape, m'.output, m'.dr, m'.size, m'.frame, m'.sub, m'.view, m'.vold, ?_⟩
  obtain ⟨ks, k1, k2, k3⟩ := m.own
  refine ⟨ks ++ [one w.heap.size o], k1.append ⟨rfl, trivial⟩, ?_, ?_⟩
  · refine List.pairwise_append.2 ⟨k2, List.pairwise_singleton _ _, fun h1 i1 h2 i2 c => ?_⟩
    rw [List.mem_singleton] at i2; subst i2
    by_cases hc : c = w.heap.size
    · left
      cases e : h1 c with
      | none => rfl
      | some x => have := hv_lt ((k3 h1 i1).1 c x e); omega
    · exact .inr (by simp [one, hc])
  · intro h hh
    rcases List.mem_append.1 hh with hh | hh
    · exact ⟨(k3 h hh).1.trans hE.hv, (k3 h hh).2⟩
    · rw [List.mem_singleton] at hh; subst hh
      refine ⟨fun c x hx => ?_, fun c => ?_, fun c hc hn => ?_⟩
      · unfold one at hx
        split at hx
        · rename_i hcb; subst hcb; cases hx; exact hnew
        · cases hx
      · by_cases hc : c = w.heap.size
        · right
          cases e : V c with
          | none => rfl
          | some x => have := hv_lt (m.view c x e); omega
        · exact .inl (by simp [one, hc])
      · by_cases hcb : c = w.heap.size
        · have := m.size; omega
        · exact absurd (by simp [one, hcb]) hn

/-- An owned piece is given away for good: it may be read from now on, not written. -/
theorem Mem.freeze {A : Asrt} {σr : Res} (m : Mem C V σ w) (hp : σ.Perm (A :: σr)) : ∃ h, A h ∧ Disj V h ∧ Mem C (Go.Vc.plus V h) σr w := by
  obtain ⟨hs, h1, h2, h3⟩ := (m.perm hp).own
  match hs, h1 with
  | h :: hs, h1 =>
    obtain ⟨p1, p2⟩ := List.pairwise_cons.1 h2
    obtain ⟨q1, q2, q3⟩ := h3 h (List.mem_cons_self ..)
    refine ⟨h, h1.1, q2.symm, m.os, m.tape, m.output, m.dr, m.size, m.frame, m.sub.trans (sub_plus_left _ _), sub_plus m.view q1, fun c hc hd => ?_, hs, h1.2, p2, fun x hx => ?_⟩
    · have : h c = none := by
        cases e : h c with
        | none => rfl
        | some y => exact absurd (q3 c hc (by rw [e]; simp)) hd
      unfold Go.Vc.plus
      rw [this, m.vold c hc hd]; cases C.V0 c <;> rfl
    · obtain ⟨r1, r2, r3⟩ := h3 x (List.mem_cons_of_mem _ hx)
      refine ⟨r1, fun c => ?_, r3⟩
      rcases r2 c with q | q
      · exact .inl q
      · rcases p1 x hx c with s | s
        · right; unfold Go.Vc.plus; rw [q]; exact s
        · exact .inl s

theorem vc_freeze {c : Code} {σr : Res} (hp : σ.Perm (Blk b o :: σr)) (h : ∀ V', Sub V V' → V' b = some o → VC P C N c K Q env V' σr) : VC P C N c K Q env V σ := fun a w hf hm => by
  have hn : V b = none := by
    obtain ⟨hs, h1, h2, h3⟩ := (hm.perm hp).own
    match hs, h1 with
    | x :: hs, h1 =>
      have hx : x = one b o := h1.1
      rcases (h3 x (List.mem_cons_self ..)).2.1 b with q | q
      · rw [hx] at q; simp [one] at q
      · exact q
  obtain ⟨x, hx, _, m'⟩ := hm.freeze hp
  have hx' : x = one b o := hx
  subst hx'
  exact h _ (sub_plus_left _ _) (by simp [Go.Vc.plus, hn, one]) a w hf m'
end

/-- What holds of the memory in every world of the kind. -/
def In (C : Cx) (V : HV) (σ : Res) (F : HV → Prop) : Prop := ∀ w, Mem C V σ w → F (hv w)

/-- v is a slice whose elements, of one cell each, are vals. -/
def Sl (H : HV) (v : Value) (vals : List Value) : Prop :=
  ∃ a cap, v = .slice a vals.length cap ∧ vals.length ≤ cap ∧ cap ≤ 9223372036854775807 ∧ (vals ≠ [] → ∃ b off cs T fz, a = some ⟨b, off, none⟩ ∧ H b = some (.cells cs T fz) ∧ ∀ i, i < vals.length → cs[off + i]? = vals[i]?)

theorem Sl.mono {H H' : HV} {v : Value} {vals : List Value} (h : Sl H v vals) (s : Sub H H') : Sl H' v vals := by
  obtain ⟨a, cap, h1, h2, h2', h3⟩ := h
  refine ⟨a, cap, h1, h2, h2', fun hn => ?_⟩
  obtain ⟨b, off, cs, T, fz, e1, e2, e3⟩ := h3 hn
  exact ⟨b, off, cs, T, fz, e1, s _ _ e2, e3⟩

theorem Sl.bound {H : HV} {v : Value} {vals : List Value} (h : Sl H v vals) : vals.length ≤ 9223372036854775807 := by
  obtain ⟨_, _, _, h1, h2, _⟩ := h; omega
theorem Sl.cells {H : HV} {v : Value} {vals : List Value} (h : Sl H v vals) : v.cells = [v].toArray := by
  obtain ⟨_, _, h, _⟩ := h; rw [h]; rfl
theorem Sl.one {H : HV} {v : Value} {vals : List Value} (h : Sl H v vals) : v.oneCell' = true := by
  obtain ⟨_, _, h, _⟩ := h; rw [h]; rfl

def Ints (k : IntKind) (H : HV) (v : Value) (xs : List Int) : Prop := Sl H v (xs.map (Value.int k))
theorem Ints.bound {k : IntKind} {H : HV} {v : Value} {xs : List Int} (h : Ints k H v xs) : xs.length ≤ 9223372036854775807 := by
  have := Sl.bound h; simpa using this
theorem Ints.mono {k : IntKind} {H H' : HV} {v : Value} {xs : List Int} (h : Ints k H v xs) (s : Sub H H') : Ints k H' v xs := Sl.mono h s

theorem inV {C : Cx} {V : HV} {σ : Res} {v : Value} {vals : List Value} (h : Sl V v vals) : In C V σ (fun H => Sl H v vals) := fun _ m => h.mono m.view
theorem inVi {C : Cx} {V : HV} {σ : Res} {k : IntKind} {v : Value} {xs : List Int} (h : Ints k V v xs) : In C V σ (fun H => Ints k H v xs) := fun _ m => Sl.mono h m.view

theorem inO {C : Cx} {V : HV} {σ : Res} {k : Nat} {T : TypeId} {b n cap : Nat} {cs : List Value} (hk : σ[k]? = some (Arr T b cs)) (hn : n = cs.length) (hc : n ≤ cap) (hm : cap ≤ 9223372036854775807) :
    In C V σ (fun H => Sl H (.slice (some ⟨b, 0, none⟩) n cap) cs) := fun w m =>
  ⟨some ⟨b, 0, none⟩, cap, by rw [hn], by omega, hm, fun _ => ⟨b, 0, cs.toArray, T, (0, 0), rfl, (m.blk hk).1, fun i _ => by simp⟩⟩

/- elements by an integer -/
abbrev gi (xs : List Int) (i : Int) : Int := xs.getD i.toNat 0
abbrev gv (vs : List Value) (i : Int) : Value := vs.getD i.toNat undef

/-- The address of the element i of a slice. -/
def eptr (v : Value) (i : Int) (s : Nat) : Value :=
  match v with
  | .slice (some a) _ _ => .pointer (some (a.add (i.toNat * s)))
  | _ => undef

def SizeIs (P : Program) (E : TypeId) (s : Nat) : Prop := (P.info? E).map (·.size) = some s
def Plain (P : Program) (E : TypeId) : Prop := ∃ d, P.underlying E = some d ∧ (∀ f, d ≠ .struct f) ∧ ∀ n e, d ≠ .array n e

theorem run_sizeOf {P : Program} {E : TypeId} {s : Nat} (h : SizeIs P E s) (w : World) : (sizeOf E).run P w = .ok s w := by
  unfold SizeIs at h
  cases e : P.info? E with
  | none => rw [e] at h; cases h
  | some i => rw [e] at h; cases h; simp [sizeOf, typeInfo, e]

theorem run_plain {P : Program} {E : TypeId} (h : Plain P E) (w : World) : (isAgg E).run P w = .ok false w := by
  obtain ⟨d, h1, h2, h3⟩ := h
  simp only [isAgg, underlying]
  cases d <;> simp_all

end Go.Vc

/- One operation at a time: what each yields. No program in sight. -/
namespace Go.Vc
open Go.RowKit

section
variable {P : Program} {C : Cx} {N : Nat} {K : K3} {Q : Ex → K3} {env : Env} {V : HV} {σ : Res} {ops : Array Oper} {rest : List Oper}
variable {dst : Option Nat} {x y z : Operand} {t T T' E : TypeId} {pos : String} {af : Array Edge} {g : Option (Nat × Bool)} {k : IntKind} {m n r : Int} {v : Value}

theorem qv_run {o : Oper} (h : ∀ w, Mem C V σ w → (execOp (ev env) o).run P w = .ok (.value v) w) : QV P C o env V σ v := fun w hm => by
  rw [h w hm]; exact ⟨rfl, rfl⟩

theorem qv_mv (v : Value) (hx : ev env x = v) : QV P C ⟨dst, .move x, t, pos, af, g⟩ env V σ v := qv_run fun w _ => by simp [execOp, hx]
theorem qv_as (v : Value) (hx : ev env x = v) : QV P C ⟨dst, .assign x, t, pos, af, g⟩ env V σ v := qv_run fun w _ => by simp [execOp, hx]
theorem qv_pick_t {a : Value} {p : Prop} [Decidable p] (hp : p) (hc : ev env z = .bool (decide p)) (hx : ev env x = a) : QV P C ⟨dst, .pick z x y, t, pos, af, g⟩ env V σ a := qv_run fun w _ => by
  simp [execOp, hc, hx, asBool, hp]
theorem qv_pick_f {a : Value} {p : Prop} [Decidable p] (hp : ¬ p) (hc : ev env z = .bool (decide p)) (hy : ev env y = a) : QV P C ⟨dst, .pick z x y, t, pos, af, g⟩ env V σ a := qv_run fun w _ => by
  simp [execOp, hc, hy, asBool, hp]

/- integers -/
theorem qv_addk (hx : ev env x = .int k m) (hy : ev env y = .int k n) (hw : k.wrap (m + n) = r) : QV P C ⟨dst, .binOp .add T x y T', t, pos, af, g⟩ env V σ (.int k r) := qv_run fun w _ => by
  simp [execOp, hx, hy, eqGuard, binOp, Op.intArith, hw]
theorem qv_subk (hx : ev env x = .int k m) (hy : ev env y = .int k n) (hw : k.wrap (m - n) = r) : QV P C ⟨dst, .binOp .sub T x y T', t, pos, af, g⟩ env V σ (.int k r) := qv_run fun w _ => by
  simp [execOp, hx, hy, eqGuard, binOp, Op.intArith, hw]
theorem qv_mulk (hx : ev env x = .int k m) (hy : ev env y = .int k n) (hw : k.wrap (m * n) = r) : QV P C ⟨dst, .binOp .mul T x y T', t, pos, af, g⟩ env V σ (.int k r) := qv_run fun w _ => by
  simp [execOp, hx, hy, eqGuard, binOp, Op.intArith, hw]
theorem qv_add (hx : ev env x = .int .i64 m) (hy : ev env y = .int .i64 n) (hb : -9223372036854775808 ≤ m + n ∧ m + n ≤ 9223372036854775807) :
    QV P C ⟨dst, .binOp .add T x y T', t, pos, af, g⟩ env V σ (.int .i64 (m + n)) := qv_addk hx hy (IntWalk.i64_in _ hb)
theorem qv_sub (hx : ev env x = .int .i64 m) (hy : ev env y = .int .i64 n) (hb : -9223372036854775808 ≤ m - n ∧ m - n ≤ 9223372036854775807) :
    QV P C ⟨dst, .binOp .sub T x y T', t, pos, af, g⟩ env V σ (.int .i64 (m - n)) := qv_subk hx hy (IntWalk.i64_in _ hb)
theorem qv_mul (hx : ev env x = .int .i64 m) (hy : ev env y = .int .i64 n) (hb : -9223372036854775808 ≤ m * n ∧ m * n ≤ 9223372036854775807) :
    QV P C ⟨dst, .binOp .mul T x y T', t, pos, af, g⟩ env V σ (.int .i64 (m * n)) := qv_mulk hx hy (IntWalk.i64_in _ hb)
theorem qv_quok (hx : ev env x = .int k m) (hy : ev env y = .int k n) (h0 : n ≠ 0) (hw : k.wrap (m.tdiv n) = r) : QV P C ⟨dst, .binOp .quo T x y T', t, pos, af, g⟩ env V σ (.int k r) := qv_run fun w _ => by
  simp [execOp, hx, hy, eqGuard, binOp, Op.intDiv, hw, h0]
theorem qv_remk (hx : ev env x = .int k m) (hy : ev env y = .int k n) (h0 : n ≠ 0) (hw : m.tmod n = r) : QV P C ⟨dst, .binOp .rem T x y T', t, pos, af, g⟩ env V σ (.int k r) := qv_run fun w _ => by
  simp [execOp, hx, hy, eqGuard, binOp, Op.intDiv, hw, h0]
theorem qv_neg (hx : ev env x = .int .i64 m) (hb : -9223372036854775807 ≤ m ∧ m ≤ 9223372036854775808) : QV P C ⟨dst, .unOp .neg T x, t, pos, af, g⟩ env V σ (.int .i64 (-m)) := qv_run fun w _ => by
  have h : IntKind.i64.wrap (-m) = -m := IntWalk.i64_in _ (by omega)
  simp [execOp, hx, Op.unary, Op.intArith, h]
theorem qv_lss (hx : ev env x = .int k m) (hy : ev env y = .int k n) : QV P C ⟨dst, .binOp .lss T x y T', t, pos, af, g⟩ env V σ (.bool (decide (m < n))) := qv_run fun w _ => by
  simp [execOp, hx, hy, eqGuard, binOp, Op.intCmp]
theorem qv_leq (hx : ev env x = .int k m) (hy : ev env y = .int k n) : QV P C ⟨dst, .binOp .leq T x y T', t, pos, af, g⟩ env V σ (.bool (decide (m ≤ n))) := qv_run fun w _ => by
  simp [execOp, hx, hy, eqGuard, binOp, Op.intCmp]
theorem qv_gtr (hx : ev env x = .int k m) (hy : ev env y = .int k n) : QV P C ⟨dst, .binOp .gtr T x y T', t, pos, af, g⟩ env V σ (.bool (decide (n < m))) := qv_run fun w _ => by
  simp [execOp, hx, hy, eqGuard, binOp, Op.intCmp]
theorem qv_geq (hx : ev env x = .int k m) (hy : ev env y = .int k n) : QV P C ⟨dst, .binOp .geq T x y T', t, pos, af, g⟩ env V σ (.bool (decide (n ≤ m))) := qv_run fun w _ => by
  simp [execOp, hx, hy, eqGuard, binOp, Op.intCmp]
theorem qv_eql (hx : ev env x = .int k m) (hy : ev env y = .int k n) : QV P C ⟨dst, .binOp .eql T x y T', t, pos, af, g⟩ env V σ (.bool (decide (m = n))) := qv_run fun w _ => by
  have : (m == n) = decide (m = n) := rfl
  simp [execOp, hx, hy, eqGuard, binOp, Op.intCmp, this]
theorem qv_neq (hx : ev env x = .int k m) (hy : ev env y = .int k n) : QV P C ⟨dst, .binOp .neq T x y T', t, pos, af, g⟩ env V σ (.bool (decide (m ≠ n))) := qv_run fun w _ => by
  have : (m != n) = decide (m ≠ n) := by by_cases h : m = n <;> simp [h]
  simp [execOp, hx, hy, eqGuard, binOp, Op.intCmp, this]
theorem run_equal_bool {P : Program} {T : TypeId} (hT : P.underlying T = some .bool) (b c : Bool) (w : World) : (Op.equal T (.bool b) (.bool c)).run P w = .ok (b == c) w := by
  have h : ∀ d, (Op.equalIn (d + 1) T (.bool b) (.bool c)).run P w = .ok (b == c) w := fun d => by simp [Op.equalIn, underlying, hT]
  exact h 9999
theorem qv_not {p : Prop} [Decidable p] (hx : ev env x = .bool (decide p)) : QV P C ⟨dst, .unOp .not T x, t, pos, af, g⟩ env V σ (.bool (decide (¬ p))) := qv_run fun w _ => by
  have : (!decide p) = decide (¬ p) := by simp
  simp only [execOp, hx, Op.unary, this]; rfl
theorem qv_min {at_ : Array TypeId} (hx : ev env x = .int k m) (hy : ev env y = .int k n) : QV P C ⟨dst, .call { callee := .builtin .min, args := #[x, y], argTypes := at_ }, t, pos, af, g⟩ env V σ (.int k (if n < m then n else m)) := qv_run fun w _ => by
  simp [execOp, resolve, invoke, builtin, Builtin.min_, Builtin.min2, hx, hy]
theorem qv_max {at_ : Array TypeId} (hx : ev env x = .int k m) (hy : ev env y = .int k n) : QV P C ⟨dst, .call { callee := .builtin .max, args := #[x, y], argTypes := at_ }, t, pos, af, g⟩ env V σ (.int k (if m < n then n else m)) := qv_run fun w _ => by
  simp [execOp, resolve, invoke, builtin, Builtin.max_, Builtin.max2, hx, hy]

/- tuples, structs by value, functions -/
theorem qv_ext {l : List Value} {i : Nat} (v : Value) (hx : ev env x = .tuple l.toArray) (hi : l[i]? = some v) : QV P C ⟨dst, .extract x i, t, pos, af, g⟩ env V σ v := qv_run fun w _ => by
  simp [execOp, hx, Instr.extract, hi]
theorem qv_func {fn : Fn} {l : List Operand} {cs : List Value} (hl : l.map (ev env) = cs) : QV P C ⟨dst, .makeFunc fn #[] l.toArray, t, pos, af, g⟩ env V σ (.func fn #[] cs.toArray) := qv_run fun w _ => by
  have : l.toArray.map (ev env) = cs.toArray := by apply Array.ext'; simp [hl]
  simp [execOp, Instr.makeFunc, ← hl]

/- slices -/
theorem qv_len {n c : Nat} {a : Option Addr} {at_ : TypeId} (hT : P.underlying at_ = some (.slice E)) (hx : ev env x = v) (hv : v = .slice a n c) :
    QV P C ⟨dst, .call { callee := .builtin .len, args := #[x], argTypes := #[at_] }, t, pos, af, g⟩ env V σ (.int .i64 n) := qv_run fun w _ => by
  subst hv
  simp [execOp, resolve, invoke, builtin, Builtin.len_, hx, underlying, hT, goInt]
theorem qv_lenS {vals : List Value} {H : HV} {at_ : TypeId} (hT : P.underlying at_ = some (.slice E)) (hx : ev env x = v) (hv : Sl H v vals) :
    QV P C ⟨dst, .call { callee := .builtin .len, args := #[x], argTypes := #[at_] }, t, pos, af, g⟩ env V σ (.int .i64 vals.length) := by
  obtain ⟨a, c, h, _⟩ := hv; exact qv_len hT hx h
theorem qv_lenI {xs : List Int} {H : HV} {at_ : TypeId} (hT : P.underlying at_ = some (.slice E)) (hx : ev env x = v) (hv : Ints k H v xs) :
    QV P C ⟨dst, .call { callee := .builtin .len, args := #[x], argTypes := #[at_] }, t, pos, af, g⟩ env V σ (.int .i64 xs.length) := by
  obtain ⟨a, c, h, _⟩ := hv; rw [List.length_map] at h; exact qv_len hT hx h

theorem Sl.at {H : HV} {v : Value} {vals : List Value} (h : Sl H v vals) {i : Int} (h0 : 0 ≤ i) (h1 : i < vals.length) :
    ∃ b off cs T fz c, v = .slice (some ⟨b, off, none⟩) vals.length c ∧ vals.length ≤ c ∧ H b = some (.cells cs T fz) ∧ eptr v i 1 = .pointer (some ((⟨b, off, none⟩ : Addr).add i.toNat)) ∧
      cs[off + i.toNat]? = some (vals.getD i.toNat undef) := by
  obtain ⟨a, c, hv, hc, _, hh⟩ := h
  have hlt : i.toNat < vals.length := by omega
  obtain ⟨b, off, cs, T, fz, rfl, e2, e3⟩ := hh (fun e => by rw [e] at hlt; simp at hlt)
  refine ⟨b, off, cs, T, fz, c, hv, hc, e2, by rw [hv]; simp [eptr], ?_⟩
  rw [e3 _ hlt, List.getD_eq_getElem?_getD, List.getElem?_eq_getElem hlt]; rfl

theorem qv_ia {vals : List Value} {s : Nat} {v : Value} {i : Int} (hT : P.underlying T = some (.slice E)) (hS : SizeIs P E s) (hx : ev env x = v) (hv : In C V σ (fun H => Sl H v vals)) (hy : ev env y = .int k i) (h0 : 0 ≤ i)
    (h1 : i < vals.length) : QV P C ⟨dst, .indexAddr T x y, t, pos, af, g⟩ env V σ (eptr v i s) := qv_run fun w hm => by
  obtain ⟨b, off, cs, T, fz, c, e, _⟩ := (hv w hm).at h0 h1
  simp only [execOp, hx, hy, e, Instr.indexAt, asIntOf, underlying, eptr]
  simp [hT, run_sizeOf hS, h0, h1]

theorem add_cell {w : World} {b off i : Nat} {cs : Array Value} {T : TypeId} {fz : Nat × Nat} (h : hv w b = some (.cells cs T fz)) : w.cell? ((⟨b, off, none⟩ : Addr).add i) = cs[off + i]? := by
  unfold hv at h
  have e : ((⟨b, off, none⟩ : Addr).add i).block = b ∧ ((⟨b, off, none⟩ : Addr).add i).off = off + i ∧ ((⟨b, off, none⟩ : Addr).add i).spot = none := by
    unfold Addr.add; split <;> simp_all
  unfold World.cell?
  rw [e.1, h]; simp [e.2.1, e.2.2]

theorem qv_ld {vals : List Value} {v : Value} {i : Int} (hP : Plain P T) (hx : ev env x = eptr v i 1) (hv : In C V σ (fun H => Sl H v vals)) (h0 : 0 ≤ i) (h1 : i < vals.length) :
    QV P C ⟨dst, .load T x, t, pos, af, g⟩ env V σ (gv vals i) := qv_run fun w hm => by
  obtain ⟨b, off, cs, T, fz, c, e, hc, e2, e3, e4⟩ := (hv w hm).at h0 h1
  rw [e3] at hx
  have hcell := add_cell (i := i.toNat) (off := off) e2
  rw [e4] at hcell
  simp [execOp, hx, Instr.loadAt, Instr.sureAddr, loadVar, run_plain hP, load, Sem.run, hcell]

theorem qv_iai {xs : List Int} {j : IntKind} {s : Nat} {v : Value} {i : Int} (hT : P.underlying T = some (.slice E)) (hS : SizeIs P E s) (hx : ev env x = v) (hv : In C V σ (fun H => Ints j H v xs)) (hy : ev env y = .int k i) (h0 : 0 ≤ i)
    (h1 : i < xs.length) : QV P C ⟨dst, .indexAddr T x y, t, pos, af, g⟩ env V σ (eptr v i s) := qv_ia hT hS hx hv hy h0 (by simpa using h1)
theorem qv_ldi {xs : List Int} {v : Value} {i : Int} (hP : Plain P T) (hx : ev env x = eptr v i 1) (hv : In C V σ (fun H => Ints k H v xs)) (h0 : 0 ≤ i) (h1 : i < xs.length) :
    QV P C ⟨dst, .load T x, t, pos, af, g⟩ env V σ (.int k (gi xs i)) := by
  have := qv_ld (dst := dst) (t := t) (pos := pos) (af := af) (g := g) hP hx hv h0 (by simpa using h1)
  have hlt : i.toNat < xs.length := by omega
  have e : (xs.map (Value.int k)).getD i.toNat undef = .int k (xs.getD i.toNat 0) := by
    simp [List.getD_eq_getElem?_getD, List.getElem?_eq_getElem hlt]
  have e' : gv (xs.map (Value.int k)) i = .int k (gi xs i) := e
  rwa [e'] at this

/- tests -/
theorem vc_if {c : Operand} {a b : Code} {p : Prop} [Decidable p] (hc : ev env c = .bool (decide p)) (ht : p → VC P C N a K Q env V σ) (hf : ¬ p → VC P C N b K Q env V σ) : VC P C N (.cond c a b) K Q env V σ :=
  vc_cond hc (fun h => ht (of_decide_eq_true h)) (fun h => hf (of_decide_eq_false h))

theorem want_t {o : Oper} {j d : Nat} {p : Prop} [Decidable p] (hp : p) (hg : o.guard = some (j, true)) (hd : (ops[j]?).bind (·.dst) = some d) (he : env d = .bool (decide p)) : wantedE o ops env = true := by
  simp [wantedE, Region.wanted, hg, yieldE, hd, he, hp]
theorem want_f {o : Oper} {j d : Nat} {p : Prop} [Decidable p] (hp : ¬ p) (hg : o.guard = some (j, false)) (hd : (ops[j]?).bind (·.dst) = some d) (he : env d = .bool (decide p)) : wantedE o ops env = true := by
  simp [wantedE, Region.wanted, hg, yieldE, hd, he, hp]
theorem want_tn {o : Oper} {j d : Nat} {p : Prop} [Decidable p] (hp : ¬ p) (hg : o.guard = some (j, true)) (hd : (ops[j]?).bind (·.dst) = some d) (he : env d = .bool (decide p)) : wantedE o ops env = false := by
  simp [wantedE, Region.wanted, hg, yieldE, hd, he, hp]
theorem want_fn {o : Oper} {j d : Nat} {p : Prop} [Decidable p] (hp : p) (hg : o.guard = some (j, false)) (hd : (ops[j]?).bind (·.dst) = some d) (he : env d = .bool (decide p)) : wantedE o ops env = false := by
  simp [wantedE, Region.wanted, hg, yieldE, hd, he, hp]
end
end Go.Vc

/- Regions that may come in any order: first operations that only read, then a tail in one forced order. No program in sight. -/
namespace Go.Vc
open Go

section
variable {P : Program} {ops : Array Oper} {md : Region.Mode} {CC : World → Prop}

end

section
variable {P : Program} {C : Cx} {N : Nat} {K : K3} {Q : Ex → K3} {env : Env} {V : HV} {σ : Res}
end
end Go.Vc

/- Operations that make or write memory, one at a time. No program in sight. -/
namespace Go.Vc
open Go.RowKit

/-- What is known of a type: its zero value, its cells, its bytes. -/
def TI (P : Program) (E : TypeId) (z : Value) (s by_ : Nat) : Prop := (P.info? E).map (fun i => (i.zero, i.size, i.bytes)) = some (some z, s, by_)
theorem TI.out {P : Program} {E : TypeId} {z : Value} {s y : Nat} (h : TI P E z s y) : ∃ i, P.info? E = some i ∧ i.zero = some z ∧ i.size = s ∧ i.bytes = y := by
  unfold TI at h
  cases e : P.info? E with
  | none => rw [e] at h; cases h
  | some i => rw [e] at h; simp at h; exact ⟨i, rfl, h.1, h.2.1, h.2.2⟩
theorem TI.size {P : Program} {E : TypeId} {z : Value} {s y : Nat} (h : TI P E z s y) : SizeIs P E s := by
  obtain ⟨i, h1, _, h3, _⟩ := h.out
  unfold SizeIs; rw [h1]; simp [h3]

theorem perm_eraseIdx {α : Type} : ∀ {l : List α} {k : Nat} {a : α}, l[k]? = some a → l.Perm (a :: l.eraseIdx k) ∧ ∀ b, (l.set k b).Perm (b :: l.eraseIdx k)
  | [], _, _, h => by simp at h
  | x :: l, 0, a, h => by simp at h; subst h; exact ⟨.refl _, fun b => .refl _⟩
  | x :: l, k + 1, a, h => by
    obtain ⟨h1, h2⟩ := perm_eraseIdx (l := l) (k := k) (by simpa using h)
    exact ⟨(h1.cons x).trans (.swap _ _ _), fun b => ((h2 b).cons x).trans (.swap _ _ _)⟩

section
variable {P : Program} {C : Cx} {N : Nat} {K : K3} {Q : Ex → K3} {env : Env} {V : HV} {σ : Res} {ops : Array Oper} {rest : List Oper} {w : World}
variable {d k : Nat} {x y z : Operand} {t T T' E : TypeId} {pos : String} {af : Array Edge} {g : Option (Nat × Bool)} {v : Value} {op : Op}

/- unguarded and guarded operations -/
theorem oq (hq : QV P C ⟨some d, op, t, pos, af, none⟩ env V σ v) (h : Ops P C N ops K rest (upd N env d v) V σ) : Ops P C N ops K (⟨some d, op, t, pos, af, none⟩ :: rest) env V σ :=
  ops_q hq (wantedE_none rfl) h
theorem og (hq : QV P C ⟨some d, op, t, pos, af, g⟩ env V σ v) (hw : wantedE ⟨some d, op, t, pos, af, g⟩ ops env = true) (h : Ops P C N ops K rest (upd N env d v) V σ) : Ops P C N ops K (⟨some d, op, t, pos, af, g⟩ :: rest) env V σ :=
  ops_q hq hw h
theorem os (hw : wantedE ⟨some d, op, t, pos, af, g⟩ ops env = false) (h : Ops P C N ops K rest (upd N env d undef) V σ) : Ops P C N ops K (⟨some d, op, t, pos, af, g⟩ :: rest) env V σ :=
  ops_skip hw h
theorem qq {K : Env → Prop} (hq : QV P C ⟨some d, op, t, pos, af, none⟩ env V σ v) (h : Qops P C N ops V σ K rest (upd N env d v)) : Qops P C N ops V σ K (⟨some d, op, t, pos, af, none⟩ :: rest) env :=
  qops_q hq (wantedE_none rfl) h
theorem qg {K : Env → Prop} (hq : QV P C ⟨some d, op, t, pos, af, g⟩ env V σ v) (hw : wantedE ⟨some d, op, t, pos, af, g⟩ ops env = true) (h : Qops P C N ops V σ K rest (upd N env d v)) :
    Qops P C N ops V σ K (⟨some d, op, t, pos, af, g⟩ :: rest) env := qops_q hq hw h
theorem qs {K : Env → Prop} (hw : wantedE ⟨some d, op, t, pos, af, g⟩ ops env = false) (h : Qops P C N ops V σ K rest (upd N env d undef)) : Qops P C N ops V σ K (⟨some d, op, t, pos, af, g⟩ :: rest) env :=
  qops_skip hw h

/-- One owned piece turns; all else stays. -/
theorem Mem.upd {A A' : Asrt} {w' : World} (m : Mem C V σ w) (hk : σ[k]? = some A)
    (H : ∀ h, A h → Sub h (hv w) → Disj h V → Mem ⟨w, V, dom [h]⟩ V [A'] w') : Mem C V (σ.set k A') w' := by
  obtain ⟨p1, p2⟩ := perm_eraseIdx hk
  have m1 := m.perm p1
  obtain ⟨hs, h1, h2, h3⟩ := m1.own
  match hs, h1 with
  | h :: hs, h1 =>
    have := Mem.call (σa := [A]) (hsa := [h]) (hsr := hs) m1 ⟨h1.1, trivial⟩ h1.2 h2 h3 (H h h1.1 (h3 h (List.mem_cons_self ..)).1 (h3 h (List.mem_cons_self ..)).2.1)
    exact this.perm (p2 A').symm

theorem Mem.single {h h' : HV} {A' : Asrt} {w' : World} (os : w'.os = w.os) (tape : w'.tape = w.tape) (output : w'.output = w.output) (size : w.heap.size ≤ w'.heap.size)
    (frame : ∀ b, b < w.heap.size → h b = none → w'.heap[b]? = w.heap[b]?) (hV : Sub V (hv w)) (hd : Disj h V) (hs : Sub h' (hv w')) (hA : A' h') (hn : ∀ b, b < w.heap.size → h' b ≠ none → h b ≠ none) (dr : w.drawn ≤ w'.drawn := by first | exact Nat.le_refl _ | exact Nat.le_succ _ | (subst_vars; exact Nat.le_refl _)) :
    Mem ⟨w, V, dom [h]⟩ V [A'] w' := by
  refine ⟨os, tape, output, dr, size, fun b hb hD => frame b hb ?_, .refl _, fun b o hb => ?_, fun _ _ _ => rfl, [h'], ⟨hA, trivial⟩, List.pairwise_singleton _ _, fun x hx => ?_⟩
  · cases e : h b with
    | none => rfl
    | some o => exact absurd ⟨h, List.mem_singleton.2 rfl, by rw [e]; simp⟩ hD
  · have h1 := hV b o hb
    have h2 : h b = none := by rcases hd b with q | q; exact q; rw [hb] at q; cases q
    have := frame b (hv_lt h1) h2
    unfold hv at h1 ⊢; rw [this]; exact h1
  · rw [List.mem_singleton] at hx; subst hx
    refine ⟨hs, fun b => ?_, fun b hb hb' => ⟨h, List.mem_singleton.2 rfl, hn b hb hb'⟩⟩
    cases e : V b with
    | none => exact .inr rfl
    | some o =>
      left
      have h1 := hv_lt (hV b o e)
      cases e' : x b with
      | none => rfl
      | some o' =>
        have := hn b h1 (by rw [e']; simp)
        rcases hd b with q | q
        · exact absurd q this
        · rw [e] at q; cases q

/- a variable of one's own -/
theorem run_newRow (P : Program) (E : TypeId) (cs : Array Value) (w : World) : (newRow E cs).run P w = .ok ⟨w.heap.size, 0, none⟩ (w.alloc (.cells cs E)) := by
  simp [newRow, newObj, Sem.run]

theorem ops_box {cs : List Value} (hx : ev env x = v) (hc : v.cells = cs.toArray) (h : ∀ b, Ops P C N ops K rest (Go.Vc.upd N env d (.pointer (some ⟨b, 0, none⟩))) V (σ ++ [Arr T b cs])) :
    Ops P C N ops K (⟨some d, .box T x, t, pos, af, none⟩ :: rest) env V σ := fun a w hf hm => by
  refine wpList_plain rfl fun K' hK' => ?_
  unfold Oper.wp
  have e : (execOp (ev env) ⟨some d, .box T x, t, pos, af, none⟩).run P w = .ok (.value (.pointer (some ⟨w.heap.size, 0, none⟩))) (w.alloc (.cells cs.toArray T)) := by
    simp [execOp, hx, Instr.box, newVar, run_newRow, hc]
  rw [hf.eval, e]
  exact hK' _ _ (h w.heap.size _ _ (hf.put (some d) _) (hm.alloc _ _ rfl))

theorem ops_make {n : Int} {s y : Nat} {z0 : Value} (hT : P.underlying T = some (.slice E)) (hi : TI P E z0 s y) (hz : z0.cells = #[z0]) (hs : s = 1) {k1 k2 : IntKind} (hx : ev env x = .int k1 n) (hy : ev env z = .int k2 n)
    (h0 : 0 ≤ n) (h1 : n * y ≤ 281474976710656) (h2 : n ≤ 9223372036854775807)
    (h : ∀ b, Ops P C N ops K rest (Go.Vc.upd N env d (.slice (some ⟨b, 0, none⟩) n.toNat n.toNat)) V (σ ++ [Arr E b (List.replicate n.toNat z0)])) :
    Ops P C N ops K (⟨some d, .makeSlice T x z, t, pos, af, none⟩ :: rest) env V σ := fun a w hf hm => by
  refine wpList_plain rfl fun K' hK' => ?_
  unfold Oper.wp
  obtain ⟨i, i1, i2, i3, i4⟩ := hi.out
  have hmc : madeCells z0.cells n.toNat = (List.replicate n.toNat z0).toArray := by
    apply Array.ext
    · simp [madeCells]
    · intro j h1 h2
      simp [madeCells, hz, Nat.mod_one]
  have e := run_make (P := P) w T E i z0 hT i1 i2 k1 k2 n n h0 (Int.le_refl _) (by rw [i4, Int.mul_comm]; exact h1) h2
  rw [i3, hs, Nat.mul_one, hmc] at e
  have e' : (execOp (ev env) ⟨some d, .makeSlice T x z, t, pos, af, none⟩).run P w = .ok (.value (.slice (some ⟨w.heap.size, 0, none⟩) n.toNat n.toNat)) (w.alloc (.cells (List.replicate n.toNat z0).toArray E)) := by
    simp [execOp, hx, hy, e]
  rw [hf.eval, e']
  exact hK' _ _ (h w.heap.size _ _ (hf.put (some d) _) (hm.alloc _ _ rfl))

/- reading through a pointer -/
def Cells (H : HV) (b : Nat) (cs : List Value) : Prop := ∃ T fz, H b = some (.cells cs.toArray T fz)
theorem Cells.mono {H H' : HV} {b : Nat} {cs : List Value} (h : Cells H b cs) (s : Sub H H') : Cells H' b cs := by
  obtain ⟨T, fz, h⟩ := h; exact ⟨T, fz, s _ _ h⟩
theorem inVc {b : Nat} {cs : List Value} (h : Cells V b cs) : In C V σ (fun H => Cells H b cs) := fun _ m => h.mono m.view
theorem inOc {b : Nat} {cs : List Value} (hk : σ[k]? = some (Arr T b cs)) : In C V σ (fun H => Cells H b cs) := fun _ m => ⟨T, (0, 0), (m.blk hk).1⟩

theorem qv_ldp {dst : Option Nat} {b off : Nat} {cs : List Value} (hP : Plain P T) (hx : ev env x = .pointer (some ⟨b, off, none⟩)) (hv' : In C V σ (fun H => Cells H b cs)) (ho : cs[off]? = some v) :
    QV P C ⟨dst, .load T x, t, pos, af, g⟩ env V σ v := qv_run fun w hm => by
  obtain ⟨T', fz, h⟩ := hv' w hm
  have hc : w.cell? ⟨b, off, none⟩ = some v := by
    unfold hv at h
    simp [World.cell?, h, ho]
  simp [execOp, hx, Instr.loadAt, Instr.sureAddr, loadVar, run_plain hP, load, Sem.run, hc]

/- writing -/
theorem setCell_eq {w : World} {b off : Nat} {cs : List Value} {T : TypeId} {v : Value} (h : w.heap[b]? = some (.cells cs.toArray T (0, 0))) :
    w.setCell ⟨b, off, none⟩ v = { w with heap := w.heap.setIfInBounds b (.cells (cs.set off v).toArray T (0, 0)) } := by
  have hlt : b < w.heap.size := hv_lt (w := w) h
  have hb : w.heap[b] = .cells cs.toArray T (0, 0) := by rw [Array.getElem?_eq_getElem hlt] at h; exact Option.some.inj h
  unfold World.setCell
  congr 1
  apply Array.ext
  · simp
  · intro i h1 h2
    simp only [Array.getElem_modify]
    by_cases hi : b = i
    · subst hi; simp [hb]
    · rw [if_neg hi, Array.getElem_setIfInBounds_ne _ hi]

theorem run_storeVar_one {P : Program} {T : TypeId} {b off : Nat} {v : Value} {w : World} {cs : List Value} {E : TypeId} (hS : SizeIs P T 1) (hv1 : v.oneCell' = true) (hb : w.heap[b]? = some (.cells cs.toArray E (0, 0))) (ho : off < cs.length) :
    (storeVar T ⟨b, off, none⟩ v).run P w = .ok () { w with heap := w.heap.setIfInBounds b (.cells (cs.set off v).toArray E (0, 0)) } := by
  have hcs : v.cells = #[v] := by cases v <;> first | rfl | cases hv1
  have hcell : w.cell? ⟨b, off, none⟩ = some cs[off] := by simp [World.cell?, hb, ho]
  have hfr : w.frozen? ⟨b, off, none⟩ = false := by simp [World.frozen?, hb]
  rw [← setCell_eq hb]
  have hadd : (⟨b, off, none⟩ : Addr).add 0 = ⟨b, off, none⟩ := by simp [Addr.add]
  simp only [storeVar, Sem.run_bind, run_sizeOf hS, Result.andThen_ok, hcs]
  simp [storeCells, hadd, run_store P w _ v .plain hv1, hcell, hfr]

theorem ops_stp {b off : Nat} {cs : List Value} (hS : SizeIs P T 1) (hx : ev env x = .pointer (some ⟨b, off, none⟩)) (hy : ev env y = v) (hv1 : v.oneCell' = true) (hk : σ[k]? = some (Arr E b cs)) (ho : off < cs.length)
    (h : Ops P C N ops K rest env V (σ.set k (Arr E b (cs.set off v)))) : Ops P C N ops K (⟨none, .store T x y, t, pos, af, none⟩ :: rest) env V σ := fun a w hf hm => by
  refine wpList_plain rfl fun K' hK' => ?_
  unfold Oper.wp
  have hb := (hm.blk hk).1
  have e : (execOp (ev env) ⟨none, .store T x y, t, pos, af, none⟩).run P w = .ok .skip { w with heap := w.heap.setIfInBounds b (.cells (cs.set off v).toArray E (0, 0)) } := by
    simp [execOp, hx, hy, Instr.storeAt, Instr.sureAddr, run_storeVar_one hS hv1 hb ho]
  rw [hf.eval, e]
  exact hK' _ _ (h _ _ (hf.put none _) (hm.setBlk hk _ _ rfl))

theorem eptr_own (b n c : Nat) (i : Int) : eptr (.slice (some ⟨b, 0, none⟩) n c) i 1 = .pointer (some ⟨b, i.toNat, none⟩) := by
  simp only [eptr, Nat.mul_one, Addr.add]
  split
  · rename_i h; rw [h]
  · simp

theorem ops_ste {b n c : Nat} {i : Int} {cs : List Value} (hS : SizeIs P T 1) (hx : ev env x = eptr (.slice (some ⟨b, 0, none⟩) n c) i 1) (hy : ev env y = v) (hv1 : v.oneCell' = true) (hk : σ[k]? = some (Arr E b cs)) (h0 : 0 ≤ i)
    (ho : i < cs.length) (h : Ops P C N ops K rest env V (σ.set k (Arr E b (cs.set i.toNat v)))) : Ops P C N ops K (⟨none, .store T x y, t, pos, af, none⟩ :: rest) env V σ :=
  ops_stp hS (by rw [hx, eptr_own]) hy hv1 hk (by omega) h
end
end Go.Vc

/- Slice literals, append onto a slice of one's own, parts of a slice. No program in sight. -/
namespace Go.Vc
open Go.RowKit

theorem foldl_set_list (off : Nat) : ∀ (vs : List Value) (j : Nat) (cells : Array Value), off + j + vs.length ≤ cells.size →
    ((vs.zipIdx j).foldl (fun cs (p : Value × Nat) => cs.setIfInBounds (off + p.2) p.1) cells).toList = cells.toList.take (off + j) ++ vs ++ cells.toList.drop (off + j + vs.length)
  | [], j, cells, _ => by simp
  | v :: vs, j, cells, h => by
    simp only [List.length_cons] at h
    simp only [List.zipIdx_cons, List.foldl_cons]
    rw [foldl_set_list off vs (j + 1) _ (by simp; omega)]
    simp only [Array.toList_setIfInBounds, List.length_cons]
    generalize hc : cells.toList = cl
    have hlen : off + j + (vs.length + 1) ≤ cl.length := by rw [← hc]; simpa using h
    have e1 : (cl.set (off + j) v).take (off + (j + 1)) = cl.take (off + j) ++ [v] := by
      have hl : off + j < cl.length := by omega
      rw [show off + (j + 1) = (off + j) + 1 by omega, List.take_succ_eq_append_getElem (by simpa using hl)]
      simp [List.take_set_of_le (Nat.le_refl _)]
    have e2 : (cl.set (off + j) v).drop (off + (j + 1) + vs.length) = cl.drop (off + j + (vs.length + 1)) := by
      rw [show off + j + (vs.length + 1) = off + (j + 1) + vs.length by omega, List.drop_set_of_lt (by omega)]
    rw [e1, e2]; simp

theorem fill_all (s : Nat) : ∀ (l : List (Nat × Value)) (i : Nat) (cells : Array Value), l.map Prod.fst = List.range' i l.length → (∀ p ∈ l, p.2.cells.size = s) → (i + l.length) * s = cells.size →
    Instr.fill (fun i => some (i * s, s)) cells l = some (cells.toList.take (i * s) ++ l.flatMap (fun p => p.2.cells.toList)).toArray
  | [], i, cells, _, _, h => by
    simp only [List.length_nil, Nat.add_zero] at h
    simp [Instr.fill, h, List.take_of_length_le]
  | (j, v) :: l, i, cells, h1, h2, h3 => by
    simp only [List.map_cons, List.length_cons, List.range'_succ, List.cons.injEq] at h1
    obtain ⟨rfl, h1⟩ := h1
    have hv : v.cells.size = s := h2 _ (List.mem_cons_self ..)
    simp only [List.length_cons] at h3
    have h3' : j * s + s + l.length * s = cells.size := by rw [← h3, ← Nat.add_assoc, Nat.add_mul, Nat.add_mul]; omega
    have hfit : ¬ (j * s + v.cells.size > cells.size) := by rw [hv]; omega
    have hfold : (v.cells.zipIdx.foldl (fun cs (p : Value × Nat) => cs.setIfInBounds (j * s + p.2) p.1) cells).toList = cells.toList.take (j * s) ++ v.cells.toList ++ cells.toList.drop (j * s + s) := by
      rw [← Array.foldl_toList, Array.toList_zipIdx, foldl_set_list _ _ _ _ (by simp [hv]; omega)]
      simp [hv]
    have hsz : (v.cells.zipIdx.foldl (fun cs (p : Value × Nat) => cs.setIfInBounds (j * s + p.2) p.1) cells).size = cells.size := by
      rw [← Array.length_toList, hfold]; simp [hv]; omega
    simp only [Instr.fill, hv]
    rw [if_neg (by simp; omega)]
    have ih := fill_all s l (j + 1) (v.cells.zipIdx.foldl (fun cs (p : Value × Nat) => cs.setIfInBounds (j * s + p.2) p.1) cells) h1 (fun p hp => h2 p (List.mem_cons_of_mem _ hp)) (by rw [hsz, ← h3]; congr 1; omega)
    have e := ih
    simp only [hfold] at e
    refine Eq.trans e ?_
    congr 2
    rw [List.take_append_of_le_length (by simp [hv, Nat.add_mul]; omega), List.take_of_length_le (by simp [hv, Nat.add_mul]; omega)]
    simp

section
variable {P : Program} {C : Cx} {N : Nat} {K : K3} {Q : Ex → K3} {env : Env} {V : HV} {σ : Res} {ops : Array Oper} {rest : List Oper} {w : World}
variable {d k : Nat} {x y z : Operand} {t T T' E : TypeId} {pos : String} {af : Array Edge} {g : Option (Nat × Bool)} {v : Value} {op : Op}

/-- A slice literal, all of whose elements are given, in order. -/
theorem ops_lit {l : List (Nat × Operand)} {n s yy : Nat} {z0 : Value} {cs : List Value} (hT : P.underlying T = some (.slice E)) (hi : TI P E z0 s yy) (_hs : 0 < s) (hn : l.map Prod.fst = List.range' 0 n)
    (hc : l.flatMap (fun p => (ev env p.2).cells.toList) = cs) (hcs : (l.all fun p => (ev env p.2).cells.size == s) = true) (hle : n * s ≤ 16777216) (_hzs : z0.cells.size = s)
    (h : ∀ b, Ops P C N ops K rest (upd N env d (.slice (some ⟨b, 0, none⟩) n n)) V (σ ++ [Arr E b cs])) :
    Ops P C N ops K (⟨some d, .buildSlice T n l.toArray, t, pos, af, none⟩ :: rest) env V σ := fun a w hf hm => by
  refine wpList_plain rfl fun K' hK' => ?_
  unfold Oper.wp
  obtain ⟨i, i1, i2, i3, i4⟩ := hi.out
  have hln : l.length = n := by have := congrArg List.length hn; simpa using this
  have hpl : l.toArray.map (fun p => (p.1, ev env p.2)) = (l.map (fun p => (p.1, ev env p.2))).toArray := by simp
  have hfill : ∀ cells : Array Value, cells.size = n * s → Instr.fill (fun i => some (i * s, s)) cells (l.map (fun p => (p.1, ev env p.2))) = some cs.toArray := fun cells hc' => by
    rw [fill_all s _ 0 cells]
    · simp only [Nat.zero_mul, List.take_zero, List.nil_append, List.flatMap_map]
      rw [← hc]
    · simp only [List.map_map, List.length_map, hln]
      exact hn
    · intro p hp
      obtain ⟨q, hq, rfl⟩ := List.mem_map.1 hp
      have := List.all_eq_true.1 hcs q hq
      simpa using this
    · simp [hln, hc']
  have e : (execOp (ev env) ⟨some d, .buildSlice T n l.toArray, t, pos, af, none⟩).run P w = .ok (.value (.slice (some ⟨w.heap.size, 0, none⟩) n n)) (w.alloc (.cells cs.toArray E)) := by
    have hle' : ¬ (16777216 < n * s) := by omega
    have hmm := hfill ((Array.range (n * s)).map (z0.cells[· % z0.cells.size]!)) (by simp)
    by_cases h0 : n * s = 0
    · have hmm := hfill ((Array.range (n * s)).map ((#[] : Array Value)[· % (#[] : Array Value).size]!)) (by simp)
      simp only [execOp, Instr.buildSlice, hpl]
      simp [run_underlying hT, sizeOf, typeInfo, i1, i3, h0] at hmm ⊢
      simp [hmm, run_newRow]
    · simp only [execOp, Instr.buildSlice, hpl]
      simp [run_underlying hT, sizeOf, typeInfo, i1, i3, h0, hle', zeroValue, i2, hmm, run_newRow]
  rw [hf.eval, e]
  exact hK' _ _ (h w.heap.size _ _ (hf.put (some d) _) (hm.alloc _ _ rfl))

/-- A slice of one's own that may grow: v is nil, or starts an owned block; its n elements, of s cells each, are xs. -/
def Gr (E : TypeId) (s : Nat) (v : Value) (n : Nat) (xs : List Value) : Asrt := fun h =>
  xs.length = n * s ∧ ((v = .slice none 0 0 ∧ n = 0 ∧ h = fun _ => none) ∨
    ∃ g cap cur, v = .slice (some ⟨g, 0, none⟩) n cap ∧ h = one g (.cells cur E (0, 0)) ∧ n ≤ cap ∧ cap ≤ maxLen ∧ cur.size = cap * s ∧ cur.toList.take (n * s) = xs)

theorem Mem.add_none (m : Mem C V σ w) (E : TypeId) (s : Nat) : Mem C V (σ ++ [Gr E s (.slice none 0 0) 0 []]) w := by
  obtain ⟨hs, h1, h2, h3⟩ := m.own
  refine ⟨m.os, m.tape, m.output, m.dr, m.size, m.frame, m.sub, m.view, m.vold, hs ++ [fun _ => none], h1.append ⟨⟨by simp, .inl ⟨rfl, rfl, rfl⟩⟩, trivial⟩, ?_, ?_⟩
  · exact List.pairwise_append.2 ⟨h2, List.pairwise_singleton _ _, fun _ _ b hb _ => by rw [List.mem_singleton] at hb; subst hb; exact .inr rfl⟩
  · intro h hh
    rcases List.mem_append.1 hh with hh | hh
    · exact h3 h hh
    · rw [List.mem_singleton] at hh; subst hh
      exact ⟨(fun _ _ q => by cases q), (fun _ => .inl rfl), (fun _ _ q => absurd rfl q)⟩

/-- A nil slice that will grow: its piece. -/
theorem vc_nil {c : Code} (E : TypeId) (s : Nat) (h : VC P C N c K Q env V (σ ++ [Gr E s (.slice none 0 0) 0 []])) : VC P C N c K Q env V σ := fun a w hf hm => h a w hf (hm.add_none E s)
theorem Mem.to_gr {b n cap : Nat} {cs : Array Value} {E : TypeId} {s : Nat} {xs : List Value} (m : Mem C V σ w) (hk : σ[k]? = some (Blk b (.cells cs E (0, 0)))) (hx : xs.length = n * s) (hn : n ≤ cap) (hm : cap ≤ maxLen) (hc : cs.size = cap * s)
    (ht : cs.toList.take (n * s) = xs) : Mem C V (σ.set k (Gr E s (.slice (some ⟨b, 0, none⟩) n cap) n xs)) w :=
  m.upd hk fun h hA hs hd => by
    have hA : h = one b (.cells cs E (0, 0)) := hA
    exact Mem.single rfl rfl rfl (Nat.le_refl _) (fun _ _ _ => rfl) m.view hd hs ⟨hx, .inr ⟨b, cap, cs, rfl, hA, hn, hm, hc, ht⟩⟩ (fun _ _ q => q)

theorem ops_to_gr {l : List Oper} {b n cap : Nat} {cs : Array Value} (s : Nat) (xs : List Value) (hk : σ[k]? = some (Blk b (.cells cs E (0, 0)))) (hx : xs.length = n * s) (hn : n ≤ cap) (hm' : cap ≤ maxLen) (hc : cs.size = cap * s)
    (ht : cs.toList.take (n * s) = xs) (h : Ops P C N ops K l env V (σ.set k (Gr E s (.slice (some ⟨b, 0, none⟩) n cap) n xs))) : Ops P C N ops K l env V σ := fun a w hf hm => h a w hf (hm.to_gr hk hx hn hm' hc ht)

theorem Gr.shape {E : TypeId} {s : Nat} {v : Value} {n : Nat} {xs : List Value} {h : HV} (hg : Gr E s v n xs h) : ∃ a c, v = .slice a n c ∧ n ≤ c ∧ c ≤ maxLen := by
  rcases hg.2 with ⟨rfl, rfl, _⟩ | ⟨g, cap, cur, rfl, _, h1, h2, _⟩
  · exact ⟨none, 0, rfl, Nat.le_refl _, Nat.zero_le _⟩
  · exact ⟨_, cap, rfl, h1, h2⟩

theorem Gr.sl {E : TypeId} {v : Value} {n : Nat} {xs : List Value} {h : HV} (hg : Gr E 1 v n xs h) : Sl h v xs := by
  obtain ⟨hx, hg⟩ := hg
  rw [Nat.mul_one] at hx
  rcases hg with ⟨rfl, rfl, _⟩ | ⟨g, cap, cur, rfl, rfl, h1, h2, h3, h4⟩
  · have : xs = [] := List.eq_nil_of_length_eq_zero hx
    subst this
    exact ⟨none, 0, rfl, Nat.le_refl _, Nat.zero_le _, fun h => absurd rfl h⟩
  · refine ⟨some ⟨g, 0, none⟩, cap, by rw [hx], by omega, by simpa [maxLen] using h2, fun _ => ⟨g, 0, cur, E, (0, 0), rfl, by simp [one], fun i hi => ?_⟩⟩
    rw [← h4, Nat.mul_one, List.getElem?_take, if_pos (by omega)]
    simp

theorem inG {n : Nat} {xs : List Value} (hk : σ[k]? = some (Gr E 1 v n xs)) : In C V σ (fun H => Sl H v xs) := fun w m => by
  obtain ⟨hs, h1, h2, h3⟩ := m.own
  obtain ⟨h, e, hg⟩ := h1.get hk
  exact hg.sl.mono (h3 h (List.mem_of_getElem? e)).1

/-- The append of a slice's elements to a slice of one's own. -/
theorem ops_append {n s yy m c : Nat} {z0 : Value} {xs news : List Value} {ad : Addr} (hT : P.underlying T = some (.slice E)) (hi : TI P E z0 s yy) (hzs : z0.cells.size = s) (hs : 0 < s) (hx : ev env x = v) (hk : σ[k]? = some (Gr E s v n xs))
    (hy : ev env y = .slice (some ad) m c) (hl : news.length = m * s) (hnews : ∀ w, Mem C V σ w → ∀ j u, news[j]? = some u → w.cell? (ad.add j) = some u) (h1 : ∀ u ∈ news, u.oneCell' = true)
    (hb : (n + m) * yy ≤ 140737488355328) (h63 : n + m ≤ maxLen)
    (h : ∀ v', (v' = .slice none 0 0 ↔ v = .slice none 0 0 ∧ m = 0) → Ops P C N ops K rest (upd N env d v') V (σ.set k (Gr E s v' (n + m) (xs ++ news)))) :
    Ops P C N ops K (⟨some d, .call { callee := .builtin .append, args := #[x, y], argTypes := #[T, T] }, t, pos, af, none⟩ :: rest) env V σ := fun a w hf hm => by
  refine wpList_plain rfl fun K' hK' => ?_
  unfold Oper.wp
  obtain ⟨i, i1, i2, i3, i4⟩ := hi.out
  subst i3; subst i4
  have hnews' := hnews w hm
  have run : ∀ (r : Result Value), (Builtin.append_ #[T, T] t #[v, .slice (some ad) m c]).run P w = r →
      (execOp (ev env) ⟨some d, .call { callee := .builtin .append, args := #[x, y], argTypes := #[T, T] }, t, pos, af, none⟩).run P w = r.andThen (fun v w => .ok (.value v) w) := fun r hr => by
    simp only [execOp, resolve, invoke, builtin, Sem.run_bind, Sem.run_pure, Result.andThen_ok, List.map_toArray, List.map_cons, List.map_nil, hx, hy, hr]
  have fin : ∀ v' w', (Builtin.append_ #[T, T] t #[v, .slice (some ad) m c]).run P w = .ok v' w' → Mem C V (σ.set k (Gr E i.size v' (n + m) (xs ++ news))) w' → (v' = .slice none 0 0 ↔ v = .slice none 0 0 ∧ m = 0) →
      Oper.upon P ⟨some d, .call { callee := .builtin .append, args := #[x, y], argTypes := #[T, T] }, t, pos, af, none⟩ a K' (lift C N K fun _ _ _ _ => False) ((execOp (ev env) ⟨some d, .call { callee := .builtin .append, args := #[x, y], argTypes := #[T, T] }, t, pos, af, none⟩).run P w) := fun v' w' hr hm' hiff => by
    rw [run _ hr]
    exact hK' _ _ (h v' hiff _ _ (hf.put (some d) _) hm')
  rw [hf.eval]
  have hsmall : n + m ≤ 9223372036854775807 := by simp only [maxLen] at h63; omega
  -- what the piece is
  obtain ⟨hs0, s1, s2, s3⟩ := hm.own
  obtain ⟨hh, e, hg⟩ := s1.get hk
  have hsub := (s3 hh (List.mem_of_getElem? e)).1
  have hlen : (xs ++ news).length = (n + m) * i.size := by rw [List.length_append, hg.1, hl, Nat.add_mul]
  have grown : ∀ (old : Nat), Mem C V (σ.set k (Gr E i.size (.slice (some ⟨w.heap.size, 0, none⟩) (n + m) (grownCap w (n + m) old E)) (n + m) (xs ++ news)))
      (w.drew.alloc (.cells (xs.toArray ++ news.toArray ++ Builtin.zeroCells z0.cells (grownCap w (n + m) old E - (n + m))) E)) := fun old => by
    have hge := grownCap_ge w (n + m) old E
    have hcm : grownCap w (n + m) old E ≤ maxLen := grownCap_le_maxLen w (n + m) old E h63
    refine hm.upd hk fun q hq hqs hqd => ?_
    refine Mem.single (h' := one w.heap.size (.cells (xs.toArray ++ news.toArray ++ Builtin.zeroCells z0.cells (grownCap w (n + m) old E - (n + m))) E (0, 0))) rfl rfl rfl (by simp) (fun b hb _ => heap_alloc_old w.drew _ b hb) hm.view hqd ?_
      ⟨hlen, .inr ⟨w.heap.size, _, _, rfl, rfl, hge, hcm, ?_, ?_⟩⟩ ?_
    · intro b o hb
      unfold one at hb
      split at hb
      · rename_i hbe; subst hbe; cases hb
        exact heap_alloc_new w.drew _
      · cases hb
    · simp only [Array.size_append, List.size_toArray, size_zeroCells, hzs, hg.1, hl, ← Nat.add_mul]
      congr 1
      omega
    · simp only [Array.toList_append, List.append_assoc]
      rw [← List.append_assoc, ← hlen]
      exact List.take_left
    · intro b hb hn
      unfold one at hn
      split at hn
      · omega
      · exact absurd rfl hn
  rcases hg.2 with ⟨rfl, rfl, he⟩ | ⟨gb, cap, cur, rfl, he, hnc, hcm, hcs, htake⟩
  · have hx0 : xs = [] := List.eq_nil_of_length_eq_zero (by simpa using hg.1)
    subst hx0
    by_cases hm0 : m = 0
    · subst hm0
      have hn0 : news = [] := List.eq_nil_of_length_eq_zero (by simpa using hl)
      subst hn0
      refine fin (.slice none 0 0) w ?_ ?_ (by simp)
      · simp [Builtin.append_, run_underlying hT, sizeOf, typeInfo, i1, Builtin.lenOf, Builtin.firstCells, loadCells, loadCellsFrom]
      · have hset : σ.set k (Gr E i.size (.slice none 0 0) (0 + 0) ([] ++ [])) = σ := by
          obtain ⟨hk1, hk2⟩ := List.getElem?_eq_some_iff.1 hk
          have : Gr E i.size (.slice none 0 0) (0 + 0) ([] ++ []) = σ[k] := by rw [hk2]; rfl
          rw [this]; exact List.set_getElem_self hk1
        rw [hset]; exact hm
    · have hr := run_append_nil (P := P) w T t E i z0 hT i1 i2 ad m c news hl hnews' (by omega) (by omega) (by have hb := hb; simp only [Nat.zero_add] at hb; omega)
      have hgr := grown 0
      simp only [Nat.zero_add, List.nil_append, Array.empty_append] at hgr hr
      refine fin _ _ hr ?_ (by simp [hm0])
      simpa using hgr
  · have hcell : w.heap[gb]? = some (.cells cur E (0, 0)) := hsub gb _ (by rw [he]; simp [one])
    by_cases hroom : n + m ≤ cap
    · have hfit : n * i.size + news.length ≤ cur.size := by rw [hl, hcs, ← Nat.add_mul]; exact Nat.mul_le_mul_right _ hroom
      have hr := run_append_room (P := P) w T t E i hT i1 gb n cap cur hcell ad m c news hl hnews' h1 hroom hfit
      refine fin _ _ hr ?_ (by simp)
      have hlt : gb < w.heap.size := hv_lt (w := w) hcell
      refine hm.upd hk fun q hq hqs hqd => ?_
      have hqe : q gb ≠ none := by
        rcases hq.2 with ⟨q1, _⟩ | ⟨g', _, _, q1, q2, _⟩
        · cases q1
        · cases q1; rw [q2]; simp [one]
      refine Mem.single (h' := one gb (.cells (cur.toList.take (n * i.size) ++ news ++ cur.toList.drop (n * i.size + news.length)).toArray E (0, 0))) rfl rfl rfl (by simp [World.setRow]) (fun b hb hn => setRow_other w gb b _ (fun e => hqe (e ▸ hn))) hm.view hqd ?_
        ⟨hlen, .inr ⟨gb, cap, _, rfl, rfl, hroom, hcm, ?_, ?_⟩⟩ ?_
      · intro b o hb
        unfold one at hb
        split at hb
        · rename_i hbe; subst hbe; cases hb
          exact setRow_heap w _ cur _ E _ hcell
        · cases hb
      · simp only [List.size_toArray, List.length_append, List.length_take, List.length_drop, Array.length_toList]
        omega
      · rw [htake, ← hlen]
        exact List.take_left
      · intro b hb hn
        unfold one at hn
        split at hn
        · rename_i hbe; subst hbe; exact hqe
        · exact absurd rfl hn
    · have holds : ∀ j u, xs[j]? = some u → w.cell? ((⟨gb, 0, none⟩ : Addr).add j) = some u := fun j u hu => by
        rw [add_cell (w := w) (b := gb) (off := 0) (i := j) hcell]
        rw [← htake, List.getElem?_take] at hu
        split at hu
        · simpa using hu
        · cases hu
      have hr := run_append_grow (P := P) w T t E i z0 hT i1 i2 ⟨gb, 0, none⟩ n cap xs hg.1 holds ad m c news hl hnews' (by omega) (by omega) (growslice_fits (by omega) hb)
      exact fin _ _ hr (grown cap) (by simp)

/-- The new elements lie in an owned row. -/
theorem news_own {j b : Nat} {T' : TypeId} {news : List Value} (hj : σ[j]? = some (Arr T' b news)) : ∀ w, Mem C V σ w → ∀ i u, news[i]? = some u → w.cell? ((⟨b, 0, none⟩ : Addr).add i) = some u := fun w hm i u hu => by
  rw [add_cell (w := w) (hm.blk hj).1]
  simpa using hu

/-- What one owns is given away for good. -/
theorem ops_freezeG {l : List Oper} {n : Nat} {xs : List Value} {σr : Res} (hp : σ.Perm (Gr E 1 v n xs :: σr)) (h : ∀ V', Sub V V' → Sl V' v xs → Ops P C N ops K l env V' σr) : Ops P C N ops K l env V σ := fun a w hf hm => by
  obtain ⟨x, hx, hd, m'⟩ := hm.freeze hp
  exact h _ (sub_plus_left _ _) (hx.sl.mono (sub_plus_right hd)) a w hf m'
end
end Go.Vc

/- Small additions: elements by an integer index, tests that are known, fields, division. No program in sight. -/
namespace Go.Vc
open Go.RowKit

abbrev gr (L : List (List Int)) (i : Int) : List Int := L.getD i.toNat []

section
variable {P : Program} {C : Cx} {N : Nat} {K : K3} {Q : Ex → K3} {env : Env} {V : HV} {σ : Res} {ops : Array Oper} {rest : List Oper} {w : World}
variable {d k : Nat} {dst : Option Nat} {x y z : Operand} {t T T' E : TypeId} {pos : String} {af : Array Edge} {g : Option (Nat × Bool)} {v : Value} {op : Op} {m n : Int}

theorem qv_ldv {vals : List Value} {i : Int} {u : Value} (hP : Plain P T) (hx : ev env x = eptr v i 1) (hv : In C V σ (fun H => Sl H v vals)) (h0 : 0 ≤ i) (h1 : i < vals.length) (hu : gv vals i = u) :
    QV P C ⟨dst, .load T x, t, pos, af, g⟩ env V σ u := by rw [← hu]; exact qv_ld hP hx hv h0 h1
theorem vc_if_t {c : Operand} {a b : Code} {p : Prop} [Decidable p] (hc : ev env c = .bool (decide p)) (hp : p) (h : VC P C N a K Q env V σ) : VC P C N (.cond c a b) K Q env V σ :=
  vc_if hc (fun _ => h) (fun hn => absurd hp hn)
theorem vc_if_f {c : Operand} {a b : Code} {p : Prop} [Decidable p] (hc : ev env c = .bool (decide p)) (hp : ¬ p) (h : VC P C N b K Q env V σ) : VC P C N (.cond c a b) K Q env V σ :=
  vc_if hc (fun hn => absurd hn hp) (fun _ => h)
theorem vc_tt {c : Operand} {a b : Code} (hc : ev env c = .bool true) (h : VC P C N a K Q env V σ) : VC P C N (.cond c a b) K Q env V σ :=
  vc_cond hc (fun _ => h) (fun hn => by cases hn)
theorem vc_ff {c : Operand} {a b : Code} (hc : ev env c = .bool false) (h : VC P C N b K Q env V σ) : VC P C N (.cond c a b) K Q env V σ :=
  vc_cond hc (fun hn => by cases hn) (fun _ => h)
theorem want_tc {o : Oper} {j d : Nat} (hg : o.guard = some (j, true)) (hd : (ops[j]?).bind (·.dst) = some d) (he : env d = .bool true) : wantedE o ops env = true := by
  simp [wantedE, Region.wanted, hg, yieldE, hd, he]
theorem want_fc {o : Oper} {j d : Nat} (hg : o.guard = some (j, false)) (hd : (ops[j]?).bind (·.dst) = some d) (he : env d = .bool false) : wantedE o ops env = true := by
  simp [wantedE, Region.wanted, hg, yieldE, hd, he]
theorem want_tnc {o : Oper} {j d : Nat} (hg : o.guard = some (j, true)) (hd : (ops[j]?).bind (·.dst) = some d) (he : env d = .bool false) : wantedE o ops env = false := by
  simp [wantedE, Region.wanted, hg, yieldE, hd, he]
theorem want_fnc {o : Oper} {j d : Nat} (hg : o.guard = some (j, false)) (hd : (ops[j]?).bind (·.dst) = some d) (he : env d = .bool true) : wantedE o ops env = false := by
  simp [wantedE, Region.wanted, hg, yieldE, hd, he]
theorem want_u {o : Oper} {j d : Nat} {c : Bool} (hg : o.guard = some (j, c)) (hd : (ops[j]?).bind (·.dst) = some d) (he : env d = undef) : wantedE o ops env = false := by
  simp [wantedE, Region.wanted, hg, yieldE, hd, he, undef]
theorem qv_pick_tc {a : Value} (hc : ev env z = .bool true) (hx : ev env x = a) : QV P C ⟨dst, .pick z x y, t, pos, af, g⟩ env V σ a := qv_run fun w _ => by
  simp [execOp, hc, hx, asBool]
theorem qv_pick_fc {a : Value} (hc : ev env z = .bool false) (hy : ev env y = a) : QV P C ⟨dst, .pick z x y, t, pos, af, g⟩ env V σ a := qv_run fun w _ => by
  simp [execOp, hc, hy, asBool]
theorem qv_notc {b : Bool} (hx : ev env x = .bool b) : QV P C ⟨dst, .unOp .not T x, t, pos, af, g⟩ env V σ (.bool (!b)) := qv_run fun w _ => by
  simp [execOp, hx, Op.unary]
theorem qv_quo (hx : ev env x = .int .i64 m) (hy : ev env y = .int .i64 n) (h1 : 0 ≤ m ∧ m ≤ 9223372036854775807) (h2 : 1 ≤ n) : QV P C ⟨dst, .binOp .quo T x y T', t, pos, af, g⟩ env V σ (.int .i64 (m / n)) :=
  qv_quok hx hy (by omega) (IntWalk.i64_quo m n ⟨h1.1, h1.2, h2⟩)
theorem qv_rem (hx : ev env x = .int .i64 m) (hy : ev env y = .int .i64 n) (h1 : 0 ≤ m) (h2 : 1 ≤ n) : QV P C ⟨dst, .binOp .rem T x y T', t, pos, af, g⟩ env V σ (.int .i64 (m % n)) :=
  qv_remk hx hy (by omega) (Int.tmod_eq_emod_of_nonneg h1)

/-- Field f of the struct T lies o cells from its start. -/
def FieldIs (P : Program) (T : TypeId) (f o : Nat) : Prop := ∃ fs fl s, P.underlying T = some (.struct fs) ∧ fs[f]? = some fl ∧ fl.offset = o ∧ SizeIs P fl.type s ∧ s ≠ 0
theorem qv_fa {f b off o : Nat} (hF : FieldIs P T f o) (hx : ev env x = .pointer (some ⟨b, off, none⟩)) : QV P C ⟨dst, .fieldAddr T x f, t, pos, af, g⟩ env V σ (.pointer (some ⟨b, off + o, none⟩)) := qv_run fun w _ => by
  obtain ⟨fs, fl, s, h1, h2, h3, h4, h5⟩ := hF
  subst h3
  have e : (⟨b, off, none⟩ : Addr).add fl.offset = ⟨b, off + fl.offset, none⟩ := by
    unfold Addr.add
    by_cases h : fl.offset = 0
    · simp [h]
    · simp [h]
  simp [execOp, hx, Instr.fieldAt, underlying, h1, h2, Instr.sureAddr, fieldPlace, run_sizeOf h4, h5, e]
end

theorem gv_ints {k : IntKind} {xs : List Int} {i : Int} (h0 : 0 ≤ i) (h1 : i < xs.length) : gv (xs.map (Value.int k)) i = .int k (gi xs i) := by
  have hlt : i.toNat < xs.length := by omega
  simp [gv, gi, List.getD_eq_getElem?_getD, List.getElem?_eq_getElem hlt]

open Classical in
/-- The first i below n with p i, or -1. -/
noncomputable def firstI (p : Int → Prop) : Nat → Int
  | 0 => -1
  | n + 1 => if 0 ≤ firstI p n then firstI p n else if p n then (n : Int) else -1
theorem firstI_none {p : Int → Prop} : ∀ n : Nat, (∀ i : Int, 0 ≤ i → i < n → ¬ p i) → firstI p n = -1
  | 0, _ => rfl
  | n + 1, h => by
    have ih := firstI_none n (fun i h0 h1 => h i h0 (by omega))
    have hn := h n (by omega) (by omega)
    simp only [firstI, ih]; simp [hn]
theorem firstI_some {p : Int → Prop} {j : Int} (h0 : 0 ≤ j) (hj : p j) (hf : ∀ i : Int, 0 ≤ i → i < j → ¬ p i) : ∀ n : Nat, j < n → firstI p n = j
  | 0, h => by omega
  | n + 1, h => by
    by_cases hn : j < n
    · have ih := firstI_some h0 hj hf n hn
      simp only [firstI, ih]; simp [h0]
    · have e : (n : Int) = j := by omega
      have ih := firstI_none n (fun i a b => hf i a (by omega))
      simp only [firstI, ih]; rw [if_neg (by omega), if_pos (by rw [e]; exact hj)]; exact e
theorem firstI_nonneg {p : Int → Prop} (n : Nat) : 0 ≤ firstI p n ↔ ∃ i : Int, 0 ≤ i ∧ i < n ∧ p i := by
  constructor
  · intro h
    induction n with
    | zero => simp [firstI] at h
    | succ n ih =>
      simp only [firstI] at h
      by_cases h1 : 0 ≤ firstI p n
      · obtain ⟨i, a, b, c⟩ := ih h1; exact ⟨i, a, by omega, c⟩
      · simp only [h1, if_false] at h
        by_cases h2 : p n
        · exact ⟨n, by omega, by omega, h2⟩
        · simp [h2] at h
  · rintro ⟨i, a, b, c⟩
    have : ∃ m : Nat, p m := ⟨i.toNat, by rw [show ((i.toNat : Nat) : Int) = i by omega]; exact c⟩
    -- the least one
    have key : ∀ m : Nat, (∃ i : Int, 0 ≤ i ∧ i < m ∧ p i) → ∃ j : Int, 0 ≤ j ∧ j < m ∧ p j ∧ ∀ i : Int, 0 ≤ i → i < j → ¬ p i := by
      intro m
      induction m with
      | zero => rintro ⟨i, a, b, _⟩; omega
      | succ m ih =>
        rintro ⟨i, a, b, c⟩
        by_cases h : ∃ i : Int, 0 ≤ i ∧ i < m ∧ p i
        · obtain ⟨j, j1, j2, j3, j4⟩ := ih h; exact ⟨j, j1, by omega, j3, j4⟩
        · have e : i = m := by
            by_cases hi : i < m
            · exact absurd ⟨i, a, hi, c⟩ h
            · omega
          exact ⟨i, a, b, c, fun x x0 x1 hx => h ⟨x, x0, by omega, hx⟩⟩
    obtain ⟨j, j1, j2, j3, j4⟩ := key n ⟨i, a, b, c⟩
    rw [firstI_some j1 j3 j4 n j2]; exact j1

theorem all_snoc {p : Int → Prop} {j : Int} (h : ∀ i : Int, 0 ≤ i → i < j → p i) (hj : p j) : ∀ i : Int, 0 ≤ i → i < j + 1 → p i := fun i a b => by
  by_cases e : i = j
  · rw [e]; exact hj
  · exact h i a (by omega)

/- lists given by a function of the index -/
theorem set_map_range {α : Type} (m i : Nat) (f : Nat → α) (v : α) : ((List.range m).map f).set i v = (List.range m).map (fun j => if j = i then v else f j) := by
  apply List.ext_getElem?
  intro j
  simp only [List.getElem?_set, List.getElem?_map, List.length_map, List.length_range]
  by_cases h : j < m
  · simp only [List.getElem?_range h, Option.map_some]
    by_cases e : i = j
    · subst e; simp [h]
    · rw [if_neg e, if_neg (fun h => e h.symm)]
  · have hn : (List.range m)[j]? = none := by simp; omega
    simp only [hn, Option.map_none]
    by_cases e : i = j
    · subst e; simp [h]
    · rw [if_neg e]
theorem gi_map_range (m : Nat) (f : Nat → Int) (j : Int) (h0 : 0 ≤ j) (h1 : j < m) : gi ((List.range m).map f) j = f j.toNat := by
  have h : j.toNat < m := by omega
  simp [gi, List.getD_eq_getElem?_getD, List.getElem?_range h]
theorem gr_map_range (m : Nat) (f : Nat → List Int) (j : Int) (h0 : 0 ≤ j) (h1 : j < m) : gr ((List.range m).map f) j = f j.toNat := by
  have h : j.toNat < m := by omega
  simp [gr, List.getD_eq_getElem?_getD, List.getElem?_range h]
theorem replicate_map_range (m : Nat) (v : Value) (f : Nat → Int) (hf : ∀ j, j < m → Value.int .i64 (f j) = v) : List.replicate m v = ((List.range m).map f).map (Value.int .i64) := by
  apply List.ext_getElem?
  intro j
  by_cases h : j < m
  · simp [List.getElem?_replicate, h, List.getElem?_range h, hf j h]
  · have hn : (List.range m)[j]? = none := by simp; omega
    simp [List.getElem?_replicate, h, hn]
theorem gv_set_same {vs : List Value} {i : Int} {v : Value} (_ : 0 ≤ i) (h1 : i < vs.length) : gv (vs.set i.toNat v) i = v := by
  have h : i.toNat < vs.length := by omega
  simp [gv, List.getD_eq_getElem?_getD, h]
theorem gv_set_other {vs : List Value} {i j : Int} {v : Value} (h0 : 0 ≤ i) (h1 : 0 ≤ j) (h : i ≠ j) : gv (vs.set i.toNat v) j = gv vs j := by
  have h : i.toNat ≠ j.toNat := by omega
  simp [gv, List.getD_eq_getElem?_getD, List.getElem?_set, h]
theorem sl_own {H : HV} {b n c : Nat} {T : TypeId} {cs : List Value} (h : H b = some (.cells cs.toArray T (0, 0))) (hn : n = cs.length) (hc : n ≤ c) (hm : c ≤ 9223372036854775807) : Sl H (.slice (some ⟨b, 0, none⟩) n c) cs :=
  ⟨some ⟨b, 0, none⟩, c, by rw [hn], by omega, hm, fun _ => ⟨b, 0, cs.toArray, T, (0, 0), rfl, h, fun i _ => by simp⟩⟩

/-- Rows of integers: a slice of slices. -/
structure Mat (k : IntKind) (H : HV) (v : Value) (rv : List Value) (L : List (List Int)) : Prop where
  sl : Sl H v rv
  len : rv.length = L.length
  row : ∀ i : Int, 0 ≤ i → i < L.length → Ints k H (gv rv i) (gr L i)
theorem Mat.mono {k : IntKind} {H H' : HV} {v : Value} {rv : List Value} {L : List (List Int)} (h : Mat k H v rv L) (s : Sub H H')   : Mat k H' v rv L :=
  ⟨h.sl.mono s, h.len, fun i h0 h1 => (h.row i h0 h1).mono s⟩
end Go.Vc

/- Regions that may come in any order and hold operations that make memory among others that only read. No program in sight. -/
namespace Go.Vc
open Go

section
variable {P : Program} {ops : Array Oper} {md : Region.Mode} {Q : Exit → Act → World → Prop}

/-- wpOp_put (Derived/Orders) with any property of the frame that lasts. -/
theorem wpOp_put' {j : Nat} {oi oj : Oper} {v : Value} {Y : Act → Prop} (hj : ops[j]? = some oj) (hap : oi.apart ops oj = true) (hsj : ∀ cs b, oj.op ≠ .select cs b)
    (hQ : ∀ c a w, Q (.panic c) (a.put oi.dst v) w → Q (.panic c) a w) {K : Act → World → Prop} {a : Act} {w : World}
    (keep : ∀ a u, Y a → Y (a.put oj.dst u)) (keepD : ∀ a d, Y a → Y { a with defers := d :: a.defers }) (hy : Y a) (h : wpOp P ops Q j K (a.put oi.dst v) w) :
    wpOp P ops Q j (fun a' w' => Y a' ∧ K (a'.put oi.dst v) w') a w := by
  obtain ⟨h1, h2, h3⟩ := Oper.apart_spec hap
  unfold wpOp at *
  simp only [hj] at *
  rw [wanted_put oj a oi.dst v h1] at h
  split
  · rename_i hw
    simp only [hw, if_true] at h
    rcases h with h | ⟨hasks, hlets⟩
    case inr => exact .inr ⟨by unfold Oper.asks at *; rw [execOp_put oj hsj a oi.dst v h1] at hasks; exact hasks, hlets⟩
    refine .inl ?_
    unfold Oper.wp at *
    rw [execOp_put oj hsj a oi.dst v h1] at h
    generalize (execOp a.eval oj).run P w = r at *
    cases r with
    | ok n w' =>
      cases n <;> simp only [Oper.upon] at h ⊢
      case value u => exact ⟨keep a u hy, by rw [← Act.put_comm a v u h2]; exact h⟩
      case skip => exact ⟨keep a _ hy, by rw [← Act.put_comm a v undef h2]; exact h⟩
      case defer d =>
        refine ⟨keep _ _ (keepD a d hy), ?_⟩
        rw [← Act.put_comm _ v undef h2, ← Act.put_defers]
        exact h
      case enter f args =>
        refine Calls.mono h fun e w'' he => ?_
        cases e with
        | returned u => exact ⟨keep a u hy, by rw [← Act.put_comm a v u h2]; exact he⟩
        | panicked c => exact hQ _ _ _ he
        | outgrown => exact he
      case row row args => exact Rows.mono h fun u w'' he => ⟨keep a u hy, by rw [← Act.put_comm a v u h2]; exact he⟩
    | halt x w' =>
      cases x <;> simp only [Oper.upon] at h ⊢
      case panic u => exact hQ _ _ _ h
  · rename_i hw
    simp only [hw] at h
    exact ⟨keep a _ hy, by rw [← Act.put_comm a v undef h2]; exact h⟩

/-- In every world of the kind the operation yields v, and only new blocks may come. -/
def YieldsE (P : Program) (ops : Array Oper) (CQ : World → Prop) (o : Oper) (v : Value) (a : Act) : Prop :=
  (Region.wanted o (yielded ops a.tmps) = true ∧ ∀ w, CQ w → Oper.quietUpon P (fun w' => Ext w w') w v ((execOp a.eval o).run P w)) ∨
  (Region.wanted o (yielded ops a.tmps) = false ∧ v = undef)

theorem YieldsE.of_same {CQ : World → Prop} {o : Oper} {v : Value} {a a' : Act} (hy : YieldsE P ops CQ o v a) (he : execOp a'.eval o = execOp a.eval o)
    (hw : Region.wanted o (yielded ops a'.tmps) = Region.wanted o (yielded ops a.tmps)) : YieldsE P ops CQ o v a' := by
  unfold YieldsE at *; rw [he, hw]; exact hy
theorem YieldsE.mono {CQ CQ' : World → Prop} {o : Oper} {v : Value} {a : Act} (hy : YieldsE P ops CQ o v a) (h : ∀ w, CQ' w → CQ w) : YieldsE P ops CQ' o v a := by
  rcases hy with ⟨h1, h2⟩ | h1
  · exact .inl ⟨h1, fun w c => h2 w (h w c)⟩
  · exact .inr h1

theorem YieldsE.wpOp {CQ : World → Prop} {i : Nat} {o : Oper} {v : Value} {a : Act} (hi : ops[i]? = some o) (hy : YieldsE P ops CQ o v a) {K : Act → World → Prop} {w : World} (hw : CQ w)
    (h : ∀ w', Ext w w' → K (a.put o.dst v) w') : Go.wpOp P ops Q i K a w := by
  unfold Go.wpOp
  simp only [hi]
  rcases hy with ⟨hwant, hv⟩ | ⟨hwant, rfl⟩
  · simp only [hwant, if_true]
    left
    have h3 := hv w hw
    unfold Oper.wp
    generalize (execOp a.eval o).run P w = r at *
    cases r with
    | ok n w' =>
      cases n <;> simp only [Oper.quietUpon] at h3 <;> simp only [Oper.upon]
      case value u => obtain ⟨e1, e2⟩ := h3; rw [e1, e2]; exact h _ (Ext.refl _)
      case skip => obtain ⟨e1, e2⟩ := h3; rw [e1, ← e2]; exact h _ (Ext.refl _)
      case enter f args =>
        obtain ⟨e1, hc⟩ := h3
        rw [e1]
        exact hc.mono fun e w'' ⟨he, hw''⟩ => by subst he; exact h _ hw''
    | halt x w' => simp only [Oper.quietUpon] at h3
  · simp only [hwant, Bool.false_eq_true, if_false]; exact h _ (Ext.refl _)

/-- A kind of worlds that new blocks do not leave. -/
def Shut (CQ : World → Prop) : Prop := ∀ w w', CQ w → Ext w w' → CQ w'

/-- Operation j and any other one wait, one for the other. -/
def loneB (md : Region.Mode) (ops : Array Oper) (j : Nat) : Bool :=
  (List.range ops.size).all fun i => i == j || Region.waitsFor md ops j i || Region.waitsFor md ops i j

theorem not_both {i j : Nat} {listed : Array Bool} (h : loneB md ops j = true) (hij : j ≠ i) (hi : i ∈ Region.ready md ops listed) (hj : j ∈ Region.ready md ops listed) : False := by
  obtain ⟨ui, oi, hoi, alli⟩ := mem_ready.1 hi
  obtain ⟨uj, oj, hoj, allj⟩ := mem_ready.1 hj
  have hlt : i < ops.size := (Array.getElem?_eq_some_iff.1 hoi).1
  have := List.all_eq_true.1 h i (List.mem_range.2 hlt)
  simp only [Bool.or_eq_true, beq_iff_eq] at this
  rcases this with (e | e) | e
  · exact hij e.symm
  · obtain ⟨o, ho, x, hx, hb, hon⟩ := Region.waitsFor_spec e
    have : o = oj := Option.some.inj (ho.symm.trans hoj)
    subst this
    have := allj x hx hb
    rw [hon, getD_both ui] at this
    cases this
  · obtain ⟨o, ho, x, hx, hb, hon⟩ := Region.waitsFor_spec e
    have : o = oi := Option.some.inj (ho.symm.trans hoi)
    subst this
    have := alli x hx hb
    rw [hon, getD_both uj] at this
    cases this

/-- Whatever order is picked from here on, in this world and wherever new blocks have come. -/
def wpE (P : Program) (md : Region.Mode) (ops : Array Oper) (Q : Exit → Act → World → Prop) : Nat → (World → Prop) → Array Bool → Act → World → Prop
  | 0, _, listed, a, w => ∀ w', Ext w w' → Region.ready md ops listed = [] ∧ Q .normal a w'
  | f + 1, CQ, listed, a, w => ∀ w', Ext w w' → (Region.ready md ops listed = [] → Q .normal a w') ∧
      ∀ i ∈ Region.ready md ops listed, wpOp P ops Q i (fun a' w'' => ∃ CQ' : World → Prop, Shut CQ' ∧ ((∀ w, CQ' w → CQ w) ∨ loneB md ops i = true) ∧ CQ' w'' ∧ wpE P md ops Q f CQ' (listed.setIfInBounds i true) a' w'') a w'

theorem wpE_ext : ∀ {f : Nat} {CQ : World → Prop} {listed : Array Bool} {a : Act} {w w' : World}, wpE P md ops Q f CQ listed a w → Ext w w' → wpE P md ops Q f CQ listed a w'
  | 0, _, _, _, _, _, h, e => fun w2 e2 => h w2 (e.trans e2)
  | _ + 1, _, _, _, _, _, h, e => fun w2 e2 => h w2 (e.trans e2)

theorem any_of_E : ∀ (f : Nat) (CQ : World → Prop) (listed : Array Bool) (a : Act) (w : World), wpE P md ops Q f CQ listed a w → wpAny P md ops Q f listed a w
  | 0, _, _, _, w, h => h w (Ext.refl _)
  | f + 1, _, _, _, w, h => ⟨(h w (Ext.refl _)).1, fun i hi => wpOp_mono (fun a' w' ⟨_, _, _, _, h'⟩ => any_of_E f _ _ a' w' h') ((h w (Ext.refl _)).2 i hi)⟩

theorem E_first {i : Nat} {oi : Oper} {v : Value} (hi : ops[i]? = some oi) (hsel : ∀ (j : Nat) (o : Oper) cs b, ops[j]? = some o → o.op ≠ .select cs b)
    (hQ : ∀ c a w, Q (.panic c) (a.put oi.dst v) w → Q (.panic c) a w) :
    ∀ (fuel : Nat) (CQ : World → Prop) (listed : Array Bool) (a : Act) (w : World), Shut CQ → CQ w →
      (∀ j oj, ops[j]? = some oj → j ≠ i → listed.getD j true = false → (∀ e ∈ oj.after, Region.binds md e = true → e.on ≠ i) → oi.apart ops oj = true) →
      i ∈ Region.ready md ops listed → YieldsE P ops CQ oi v a →
      wpE P md ops Q fuel CQ (listed.setIfInBounds i true) (a.put oi.dst v) w → wpE P md ops Q (fuel + 1) CQ listed a w := by
  intro fuel
  induction fuel with
  | zero =>
    intro CQ listed a w hS hw _ hr hy H w' e'
    refine ⟨fun h => (by rw [h] at hr; cases hr), fun j hj => ?_⟩
    by_cases hji : j = i
    · subst hji
      exact hy.wpOp hi (hS _ _ hw e') (fun w2 e2 => ⟨CQ, hS, .inl fun _ h => h, hS _ _ hw (e'.trans e2), fun w3 e3 => H w3 ((e'.trans e2).trans e3)⟩)
    · have := ready_mono hj hji
      rw [(H w' e').1] at this
      cases this
  | succ fuel ih =>
    intro CQ listed a w hS hw hfree hr hy H w' e'
    refine ⟨fun h => (by rw [h] at hr; cases hr), fun j hj => ?_⟩
    by_cases hji : j = i
    · subst hji
      exact hy.wpOp hi (hS _ _ hw e') (fun w2 e2 => ⟨CQ, hS, .inl fun _ h => h, hS _ _ hw (e'.trans e2), wpE_ext H (e'.trans e2)⟩)
    · have h1 := (H w' e').2 j (ready_mono hj hji)
      obtain ⟨hjun, oj, hoj, hall⟩ := mem_ready.1 hj
      have hnot : ∀ e ∈ oj.after, Region.binds md e = true → e.on ≠ i := fun e he hb heq => by
        have h2 := hall e he hb
        rw [heq, getD_both (mem_ready.1 hr).1] at h2
        cases h2
      have hap := hfree j oj hoj hji hjun hnot
      obtain ⟨p1, p2, p3⟩ := Oper.apart_spec hap
      have h2 := wpOp_put' (Y := fun a => YieldsE P ops CQ oi v a) hoj hap (fun cs b => hsel j oj cs b hoj) hQ
        (fun a u hy => hy.of_same (execOp_put oi (fun cs b => hsel i oi cs b hi) a oj.dst u p3) (wanted_put oi a oj.dst u p3)) (fun a d hy => hy.of_same rfl rfl) hy h1
      refine wpOp_mono (fun a' w2 ⟨hy', CQ', q1, q2, q3, q4⟩ => ⟨CQ', q1, q2, q3, ih CQ' (listed.setIfInBounds j true) a' w2 q1 q3 (fun k ok hk hki hun hno => ?_) (ready_mono hr (Ne.symm hji)) (hy'.mono (q2.resolve_right fun hl => not_both hl hji hr hj)) ?_⟩) h2
      · refine hfree k ok hk hki ?_ hno
        by_cases hjk : j = k
        · subst hjk; exact hjun
        · rw [getD_set_ne true hjk] at hun; exact hun
      · rw [Array.setIfInBounds_comm _ _ hji]; exact q4

/-- An order in which the operations may be walked: (i, false): i only reads and may be taken first; (i, true): nothing else may come now. -/
def orderB (md : Region.Mode) (ops : Array Oper) : List (Nat × Bool) → Array Bool → Bool
  | [], listed => (Region.ready md ops listed).isEmpty
  | (i, false) :: l, listed => (Region.ready md ops listed).contains i && Region.free md ops listed i && orderB md ops l (listed.setIfInBounds i true)
  | (i, true) :: l, listed => decide (Region.ready md ops listed = [i]) && orderB md ops l (listed.setIfInBounds i true)

/-- The walk in that order. -/
def wpO (P : Program) (ops : Array Oper) (Q : Exit → Act → World → Prop) : List (Nat × Bool) → (World → Prop) → Act → World → Prop
  | [], _, a, w => ∀ w', Ext w w' → Q .normal a w'
  | (i, false) :: l, CQ, a, w => ∃ o v, ops[i]? = some o ∧ YieldsE P ops CQ o v a ∧ wpO P ops Q l CQ (a.put o.dst v) w
  | (i, true) :: l, CQ, a, w => ∀ w', Ext w w' → wpOp P ops Q i (fun a' w'' => ∃ CQ' : World → Prop, Shut CQ' ∧ ((∀ w, CQ' w → CQ w) ∨ loneB .any ops i = true) ∧ CQ' w'' ∧ wpO P ops Q l CQ' a' w'') a w'

theorem E_of_O (hsel : Region.noSelect ops = true) (hQ : ∀ c a w, ¬ Q (.panic c) a w) : ∀ (l : List (Nat × Bool)) (CQ : World → Prop) (listed : Array Bool) (a : Act) (w : World), Shut CQ → CQ w →
    orderB .any ops l listed = true → wpO P ops Q l CQ a w → wpE P .any ops Q l.length CQ listed a w
  | [], _, _, _, _, _, _, hB, h => fun w' e' => ⟨by simpa [orderB] using hB, h w' e'⟩
  | (i, false) :: l, CQ, listed, a, w, hS, hw, hB, h => by
    simp only [orderB, Bool.and_eq_true] at hB
    obtain ⟨⟨hr, hf⟩, hB'⟩ := hB
    obtain ⟨o, v, ho, hy, hK⟩ := h
    exact E_first ho (Region.noSelect_spec hsel) (fun c a w h => absurd h (hQ _ _ _)) _ CQ listed a w hS hw (Region.free_spec ho hf) (by simpa using hr) hy
      (E_of_O hsel hQ l CQ _ _ w hS hw hB' hK)
  | (i, true) :: l, CQ, listed, a, w, hS, hw, hB, h => by
    simp only [orderB, Bool.and_eq_true, decide_eq_true_eq] at hB
    intro w' e'
    refine ⟨fun h1 => (by rw [hB.1] at h1; cases h1), fun j hj => ?_⟩
    rw [hB.1] at hj
    have hij : j = i := by simpa using hj
    subst hij
    exact wpOp_mono (fun a' w'' ⟨CQ', q1, q2, q3, q4⟩ => ⟨CQ', q1, q2, q3, E_of_O hsel hQ l CQ' _ a' w'' q1 q3 hB.2 q4⟩) (h w' e')

theorem wp_region_order {CQ : World → Prop} {id : Nat} {a : Act} {w : World} (l : List (Nat × Bool)) (hm : P.follows .mixedOrders = true) (hsel : Region.noSelect ops = true) (hl : l.length = ops.size)
    (hB : orderB .any ops l (Array.replicate ops.size false) = true) (hQ : ∀ c a w, ¬ Q (.panic c) a w) (hS : Shut CQ)
    (hC : CQ { w with drawn := w.drawn + 1 }) (h : wpO P ops Q l CQ a { w with drawn := w.drawn + 1 }) : (Code.region id ops true).wp P Q a w := by
  refine wp_region_any hm ?_
  have := E_of_O hsel hQ l CQ _ a _ hS hC hB h
  rw [hl] at this
  exact any_of_E _ CQ _ _ _ this
end

section
variable {P : Program} {C : Cx} {N : Nat} {K : K3} {Q : Ex → K3} {env : Env} {V V0 : HV} {σ σq : Res} {ops : Array Oper} {rest : List (Nat × Bool)} {w : World}
variable {d i : Nat} {t T T' E : TypeId} {pos : String} {af : Array Edge} {g : Option (Nat × Bool)} {v : Value} {op : Op} {o : Oper}

theorem Mem.weaken {τ : Res} (m : Mem C V σ w) (h1 : Sub V0 V) (h2 : Sub C.V0 V0) (h3 : ∀ b, b < C.w0.heap.size → ¬ C.D b → V0 b = C.V0 b) (hp : σ.Perm (σq ++ τ)) : Mem C V0 σq w := by
  obtain ⟨hs, s1, s2, s3⟩ := (m.perm hp).own
  obtain ⟨ha, hb, rfl, s4, s5⟩ := s1.split
  refine ⟨m.os, m.tape, m.output, m.dr, m.size, m.frame, h2, h1.trans m.view, h3, ha, s4, (List.pairwise_append.1 s2).1, fun h hh => ?_⟩
  obtain ⟨q1, q2, q3⟩ := s3 h (List.mem_append_left _ hh)
  refine ⟨q1, fun b => ?_, q3⟩
  rcases q2 b with q | q
  · exact .inl q
  · right
    cases e : V0 b with
    | none => rfl
    | some o => rw [h1 b o e] at q; cases q

/-- The walk of a region in a given order; σq: the owned pieces that no operation of the region writes. -/
def Ords (P : Program) (C : Cx) (N : Nat) (ops : Array Oper) (K : K3) (l : List (Nat × Bool)) (env : Env) (V : HV) (σ σq : Res) : Prop :=
  ∀ a w, Fr N env a → Mem C V σ w → (∃ τ, σ.Perm (σq ++ τ)) → wpO P ops (lift C N K (fun _ _ _ _ => False)) l (Mem C V σq) a w

theorem shut_mem (C : Cx) (V : HV) (σ : Res) : Shut (Mem C V σ) := fun _ _ h e => h.ext e

theorem rnil (h : K env V σ) : Ords P C N ops K [] env V σ σq := fun _ _ hf hm _ _ e => ⟨env, V, σ, hf, hm.ext e, h⟩
theorem re (ho : ops[i]? = some ⟨some d, op, t, pos, af, g⟩) (hq : QV P C ⟨some d, op, t, pos, af, g⟩ env V σq v) (hw : wantedE ⟨some d, op, t, pos, af, g⟩ ops env = true) (h : Ords P C N ops K rest (upd N env d v) V σ σq) :
    Ords P C N ops K ((i, false) :: rest) env V σ σq := fun a w hf hm hp =>
  ⟨_, v, ho, .inl ⟨by rw [hf.yielded]; exact hw, fun w' c => by rw [hf.eval]; exact quietUpon_mono (fun _ h => h.2) (hq w' c)⟩, h _ w (hf.put (some d) v) hm hp⟩
theorem rq (ho : ops[i]? = some ⟨some d, op, t, pos, af, none⟩) (hq : QV P C ⟨some d, op, t, pos, af, none⟩ env V σq v) (h : Ords P C N ops K rest (upd N env d v) V σ σq) : Ords P C N ops K ((i, false) :: rest) env V σ σq :=
  re ho hq (wantedE_none rfl) h
theorem rs (ho : ops[i]? = some ⟨some d, op, t, pos, af, g⟩) (hw : wantedE ⟨some d, op, t, pos, af, g⟩ ops env = false) (h : Ords P C N ops K rest (upd N env d undef) V σ σq) : Ords P C N ops K ((i, false) :: rest) env V σ σq := fun a w hf hm hp =>
  ⟨_, undef, ho, .inr ⟨by rw [hf.yielded]; exact hw, rfl⟩, h _ w (hf.put (some d) undef) hm hp⟩

theorem Oper.wp_monoQ {a : Act} {K K' : Act → World → Prop} {Q Q' : Exit → Act → World → Prop} (hK : ∀ a w, K a w → K' a w) (hQ : ∀ c a w, Q (.panic c) a w → Q' (.panic c) a w) (hO : LetsOut Q → LetsOut Q')
    (h : Oper.wp P o a w K Q) : Oper.wp P o a w K' Q' := by
  unfold Oper.wp at *
  generalize (execOp a.eval o).run P w = r at *
  cases r with
  | ok n w' =>
    cases n <;> simp only [Oper.upon] at h ⊢
    case value u => exact hK _ _ h
    case skip => exact hK _ _ h
    case defer d => exact hK _ _ h
    case enter f args =>
      refine Calls.mono h fun e w'' he => ?_
      cases e with
      | returned u => exact hK _ _ he
      | panicked c => exact hQ _ _ _ he
      | outgrown => exact hO he
    case row row args => exact Rows.mono h fun u w'' he => hK _ _ he
  | halt x w' =>
    cases x <;> simp only [Oper.upon] at h ⊢
    case panic u => exact hQ _ _ _ h

theorem no_out {K : K3} : ¬ LetsOut (lift C N K (fun _ _ _ _ => False)) := by
  rintro ⟨_, _, _, _, _, _, _, h⟩; exact h

theorem wpList_one_mono {K1 K2 : K3} {a : Act} (h : ∀ a w, lift C N K1 (fun _ _ _ _ => False) .normal a w → lift C N K2 (fun _ _ _ _ => False) .normal a w)
    (hl : wpList P ops (lift C N K1 (fun _ _ _ _ => False)) [o] a w) : wpList P ops (lift C N K2 (fun _ _ _ _ => False)) [o] a w := by
  simp only [wpList] at hl ⊢
  split
  · rename_i hw
    rw [if_pos hw] at hl
    rcases hl with hl | ⟨_, hl⟩
    · exact .inl (Oper.wp_monoQ h (fun c a w ⟨_, _, _, _, _, h⟩ => h.elim) (fun h => absurd h no_out) hl)
    · exact absurd hl no_out
  · rename_i hw
    rw [if_neg hw] at hl
    exact h _ _ hl

/-- An operation in its forced place, of any kind: by the rule for a list of one. -/
theorem rl0 (ho : ops[i]? = some o)
    (h : Ops P C N ops (fun e' V' σ' => ∃ σq' τ', σ'.Perm (σq' ++ τ') ∧ ((Sub V V' ∧ ∃ ρ, σq'.Perm (σq ++ ρ)) ∨ loneB .any ops i = true) ∧ Ords P C N ops K rest e' V' σ' σq') [o] env V σ) : Ords P C N ops K ((i, true) :: rest) env V σ σq := fun a w hf hm hp w' e' => by
  have hm' := hm.ext e'
  have hl := h a w' hf hm'
  have fin : ∀ a'' w'', lift C N (fun e' V' σ' => ∃ σq' τ', σ'.Perm (σq' ++ τ') ∧ ((Sub V V' ∧ ∃ ρ, σq'.Perm (σq ++ ρ)) ∨ loneB .any ops i = true) ∧ Ords P C N ops K rest e' V' σ' σq') (fun _ _ _ _ => False) .normal a'' w'' →
      ∃ CQ' : World → Prop, Shut CQ' ∧ ((∀ w, CQ' w → Mem C V σq w) ∨ loneB .any ops i = true) ∧ CQ' w'' ∧ wpO P ops (lift C N K (fun _ _ _ _ => False)) rest CQ' a'' w'' := by
    rintro a'' w'' ⟨env', V', σ', hf', hm2, σq', τ', h2, h3, h4⟩
    exact ⟨Mem C V' σq', shut_mem _ _ _, h3.imp (fun ⟨h1, ρ, h3⟩ w c => c.weaken h1 hm.sub hm.vold h3) id, hm2.weaken (Sub.refl _) hm2.sub hm2.vold h2, h4 _ _ hf' hm2 ⟨τ', h2⟩⟩
  unfold wpOp
  simp only [ho]
  simp only [wpList] at hl
  split
  · rename_i hw
    rw [if_pos hw] at hl
    rcases hl with hl | ⟨_, hl⟩
    · exact .inl (Oper.wp_monoQ fin (fun c a w ⟨_, _, _, _, _, h⟩ => h.elim) (fun h => absurd h no_out) hl)
    · exact absurd hl no_out
  · rename_i hw
    rw [if_neg hw] at hl
    exact fin _ _ hl

theorem perm_nil {α : Type _} (l : List α) : l.Perm (l ++ []) := by rw [List.append_nil]

/-- Its pieces, as far as other operations read them, stay. -/
theorem rl (ho : ops[i]? = some o)
    (h : Ops P C N ops (fun e' V' σ' => ∃ σq' τ', Sub V V' ∧ σ'.Perm (σq' ++ τ') ∧ (∃ ρ, σq'.Perm (σq ++ ρ)) ∧ Ords P C N ops K rest e' V' σ' σq') [o] env V σ) : Ords P C N ops K ((i, true) :: rest) env V σ σq :=
  rl0 ho fun a w hf hm => by
    refine wpList_one_mono ?_ (h a w hf hm)
    rintro a' w' ⟨e', V', σ', h1, h2, σq', τ', h3, h4, h5, h6⟩
    exact ⟨e', V', σ', h1, h2, σq', τ', h4, .inl ⟨h3, h5⟩, h6⟩
/-- It waits for all others, or they for it. -/
theorem rl1 (hs : loneB .any ops i = true) (ho : ops[i]? = some o)
    (h : Ops P C N ops (fun e' V' σ' => ∃ σq' τ', σ'.Perm (σq' ++ τ') ∧ Ords P C N ops K rest e' V' σ' σq') [o] env V σ) : Ords P C N ops K ((i, true) :: rest) env V σ σq :=
  rl0 ho fun a w hf hm => by
    refine wpList_one_mono ?_ (h a w hf hm)
    rintro a' w' ⟨e', V', σ', h1, h2, σq', τ', h4, h6⟩
    exact ⟨e', V', σ', h1, h2, σq', τ', h4, .inr hs, h6⟩

theorem vc_region_order {id : Nat} {l : List Oper} {τ : Res} (ord : List (Nat × Bool)) (σq : Res) (hm : P.follows .mixedOrders = true) (hp : σ.Perm (σq ++ τ))
    (hB : (Region.noSelect l.toArray && decide (ord.length = l.toArray.size) && orderB .any l.toArray ord (Array.replicate l.toArray.size false)) = true)
    (h : Ords P C N l.toArray K ord env V σ σq) : VC P C N (.region id l.toArray true) K Q env V σ := fun a w hf hmm => by
  simp only [Bool.and_eq_true, decide_eq_true_eq] at hB
  have hmd := hmm.drawn (w.drawn + 1)
  refine wp_mono (wp_region_order (CQ := Mem C V σq) (Q := lift C N K (fun _ _ _ _ => False)) ord hm hB.1.1 hB.1.2 hB.2 (fun c a w h => ?_) (shut_mem _ _ _) (hmd.weaken (Sub.refl _) hmm.sub hmm.vold hp) (h a _ hf hmd ⟨τ, hp⟩)) ?_
  · obtain ⟨_, _, _, _, _, h⟩ := h; exact h
  · rintro e a'' w'' ⟨env'', V', σ', q1, q2, hh⟩
    refine ⟨env'', V', σ', q1, q2, ?_⟩
    cases e <;> first | exact hh | exact hh.elim
end
end Go.Vc

/- Dropping and giving away what a walk owns; nil slices. No program in sight. -/
namespace Go.Vc
open Go
section
variable {P : Program} {C : Cx} {N : Nat} {ops : Array Oper} {K : K3} {Q : Ex → K3} {env : Env} {V : HV} {σ : Res}

theorem Mem.drop {w : World} {σq τ : Res} (m : Mem C V σ w) (hp : σ.Perm (σq ++ τ)) : Mem C V σq w := m.weaken (Sub.refl _) m.sub m.vold hp
/-- What one owns is let go. -/
theorem vc_drop {c : Code} (σq τ : Res) (hp : σ.Perm (σq ++ τ)) (h : VC P C N c K Q env V σq) : VC P C N c K Q env V σ := fun a w hf hm => h a w hf (hm.drop hp)
theorem vc_freezeG {c : Code} {v : Value} {E n : Nat} {xs : List Value} {σr : Res} (hp : σ.Perm (Gr E 1 v n xs :: σr)) (h : ∀ V', Sub V V' → Sl V' v xs → VC P C N c K Q env V' σr) : VC P C N c K Q env V σ := fun a w hf hm => by
  obtain ⟨x, hx, hd, m'⟩ := hm.freeze hp
  exact h _ (sub_plus_left _ _) (hx.sl.mono (sub_plus_right hd)) a w hf m'
theorem Sl.nil : Sl V (.slice none 0 0) [] := ⟨none, 0, rfl, Nat.le_refl _, Nat.zero_le _, fun h => absurd rfl h⟩
theorem Ints.nil {k : IntKind} : Ints k V (.slice none 0 0) [] := Sl.nil
theorem Mat.nil {k : IntKind} : Mat k V (.slice none 0 0) [] [] := ⟨Sl.nil, rfl, fun i h0 h1 => absurd h1 (by simp; omega)⟩
/-- A guarded operation that is wanted. -/
theorem ops_want {rest : List Oper} {d : Option Nat} {op : Op} {t : TypeId} {pos : String} {af : Array Edge} {g : Option (Nat × Bool)} (hw : wantedE ⟨d, op, t, pos, af, g⟩ ops env = true)
    (h : Ops P C N ops K (⟨d, op, t, pos, af, none⟩ :: rest) env V σ) : Ops P C N ops K (⟨d, op, t, pos, af, g⟩ :: rest) env V σ := fun a w hf hm => by
  have h := h a w hf hm
  unfold wpList at h ⊢
  rw [hf.yielded] at h ⊢
  rw [if_pos (show Region.wanted _ (yieldE ops env) = true from hw)]
  rw [if_pos (show Region.wanted ⟨d, op, t, pos, af, none⟩ (yieldE ops env) = true from rfl)] at h
  exact h
/-- A new variable. -/
theorem ops_alloc {rest : List Oper} {d : Nat} {T t : TypeId} {pos : String} {af : Array Edge} {s y : Nat} {z0 : Value} {cs : List Value} (hi : TI P T z0 s y) (hc : z0.cells = cs.toArray) (h : ∀ b, Ops P C N ops K rest (Go.Vc.upd N env d (.pointer (some ⟨b, 0, none⟩))) V (σ ++ [Arr T b cs])) :
    Ops P C N ops K (⟨some d, .alloc T, t, pos, af, none⟩ :: rest) env V σ := fun a w hf hm => by
  refine wpList_plain rfl fun K' hK' => ?_
  unfold Oper.wp
  obtain ⟨i, i1, i2, i3, i4⟩ := hi.out
  have e : (execOp (ev env) ⟨some d, .alloc T, t, pos, af, none⟩).run P w = .ok (.value (.pointer (some ⟨w.heap.size, 0, none⟩))) (w.alloc (.cells cs.toArray T)) := by
    simp [execOp, Instr.alloc, zeroValue, typeInfo, i1, i2, newVar, run_newRow, hc]
  rw [hf.eval, e]
  exact hK' _ _ (h w.heap.size _ _ (hf.put (some d) _) (hm.alloc _ _ rfl))
theorem ops_freeze {l : List Oper} {b : Nat} {o : Obj} {σr : Res} (hp : σ.Perm (Blk b o :: σr)) (h : ∀ V', Sub V V' → V' b = some o → Ops P C N ops K l env V' σr) : Ops P C N ops K l env V σ := fun a w hf hm => by
  obtain ⟨x, hx, hd, m'⟩ := hm.freeze hp
  have hx : x = one b o := hx
  exact h _ (sub_plus_left _ _) (sub_plus_right hd b o (by rw [hx]; simp [one])) a w hf m'
theorem sl_cells {b n c : Nat} {cs : List Value} (h : Cells V b cs) (hn : n = cs.length) (hc : n ≤ c) (hm : c ≤ 9223372036854775807) : Sl V (.slice (some ⟨b, 0, none⟩) n c) cs := by
  obtain ⟨T, fz, h⟩ := h
  exact ⟨_, c, by rw [hn], by omega, hm, fun _ => ⟨b, 0, cs.toArray, T, fz, rfl, h, fun i _ => by simp⟩⟩
/-- A call that only computes, of arguments some of which one owns. -/
theorem qv_call_in {dst : Option Nat} {x : Operand} {l : List Operand} {at_ : Array TypeId} {t : TypeId} {pos : String} {af : Array Edge} {g : Option (Nat × Bool)} {f : FuncId} {cap : Array Value} {args : List Value} {v : Value} {V1 : HV}
    (h : FnC P f args V1 [] (fun v' _ _ => v' = v)) (hs : ∀ w, Mem C V σ w → Sub V1 (hv w)) (hx : ev env x = .func (.func f) #[] cap) (ha : l.map (ev env) ++ cap.toList = args) :
    QV P C ⟨dst, .call { callee := .value x, args := l.toArray, argTypes := at_ }, t, pos, af, g⟩ env V σ v := fun w hm => by
  have q : QV P ⟨w, V1, dom []⟩ ⟨dst, .call { callee := .value x, args := l.toArray, argTypes := at_ }, t, pos, af, g⟩ env V1 [] v := qv_call h hx ha
  have m0 : Mem ⟨w, V1, dom []⟩ V1 [] w := ⟨rfl, rfl, rfl, Nat.le_refl _, Nat.le_refl _, fun _ _ _ => rfl, .refl _, hs w hm, fun _ _ _ => rfl, [], trivial, List.Pairwise.nil, fun _ hh => by cases hh⟩
  exact quietUpon_mono (fun _ ⟨_, e⟩ => ⟨hm.ext e, e⟩) (q w m0)
/-- The same where one owned block is read. -/
theorem qv_call_own {dst : Option Nat} {x : Operand} {l : List Operand} {at_ : Array TypeId} {t : TypeId} {pos : String} {af : Array Edge} {g : Option (Nat × Bool)} {f : FuncId} {cap : Array Value} {args : List Value} {v : Value} {k b : Nat} {o : Obj}
    (hk : σ[k]? = some (Blk b o)) (h : ∀ V1, Sub V V1 → V1 b = some o → FnC P f args V1 [] (fun v' _ _ => v' = v)) (hx : ev env x = .func (.func f) #[] cap) (ha : l.map (ev env) ++ cap.toList = args) :
    QV P C ⟨dst, .call { callee := .value x, args := l.toArray, argTypes := at_ }, t, pos, af, g⟩ env V σ v := fun w hm => by
  obtain ⟨h2, h3⟩ := hm.blk hk
  have h1 := hm.view
  have s1 : Sub V (plus V (one b o)) := sub_plus_left _ _
  have hb : plus V (one b o) b = some o := by unfold plus; rw [h3]; simp [one]
  refine qv_call_in (h _ s1 hb) (fun w' hm' => ?_) hx ha w hm
  have h2 := (hm'.blk hk).1
  intro c o' hc
  unfold plus at hc
  cases hV : V c with
  | some o2 => rw [hV] at hc; exact hm'.view c o' (by rw [hV]; exact hc)
  | none =>
    rw [hV] at hc
    simp only [one] at hc
    split at hc
    · rename_i e; subst e; cases hc; exact h2
    · cases hc
end
end Go.Vc

/- Structs and arrays of several cells: loading, storing, building, comparing, returning. No program in sight. -/
namespace Go.Vc
open Go Go.RowKit

/-- A struct or an array of s cells. -/
def AggIs (P : Program) (T : TypeId) (s : Nat) : Prop := (∃ d, P.underlying T = some d ∧ ((∃ f, d = .struct f) ∨ ∃ n e, d = .array n e)) ∧ SizeIs P T s
theorem AggIs.struct {P : Program} {T : TypeId} {s : Nat} {f : Array Field} (h : P.underlying T = some (.struct f)) (hs : SizeIs P T s) : AggIs P T s := ⟨⟨_, h, Or.inl ⟨_, rfl⟩⟩, hs⟩
theorem AggIs.array {P : Program} {T : TypeId} {s n : Nat} {e : TypeId} (h : P.underlying T = some (.array n e)) (hs : SizeIs P T s) : AggIs P T s := ⟨⟨_, h, Or.inr ⟨_, _, rfl⟩⟩, hs⟩
theorem run_agg {P : Program} {T : TypeId} {s : Nat} (h : AggIs P T s) (w : World) : (isAgg T).run P w = .ok true w := by
  obtain ⟨⟨d, h1, h2⟩, _⟩ := h
  rcases h2 with ⟨f, rfl⟩ | ⟨n, e, rfl⟩ <;> simp [isAgg, run_underlying h1]

/- building -/
def fillL (pl : List (Nat × Nat)) : List Value → List (Nat × List Value) → Option (List Value)
  | cs, [] => some cs
  | cs, (i, v) :: r => match pl[i]? with
    | none => none
    | some (off, s) => if v.length = s ∧ off + v.length ≤ cs.length then fillL pl (cs.take off ++ v ++ cs.drop (off + v.length)) r else none
theorem set_seg (cs : List Value) : ∀ (v : List Value) (off : Nat), off + v.length ≤ cs.length → cs.take off ++ v ++ cs.drop (off + v.length) = (v.zipIdx.foldl (fun l (c, j) => l.set (off + j) c) cs) := by
  suffices h : ∀ (v : List Value) (k off : Nat) (cs : List Value), off + k + v.length ≤ cs.length → (v.zipIdx k).foldl (fun l (c, j) => l.set (off + j) c) cs = cs.take (off + k) ++ v ++ cs.drop (off + k + v.length) by
    intro v off hl; have := h v 0 off cs (by omega); simpa using this.symm
  intro v
  induction v with
  | nil => intro k off cs h; simp
  | cons x v ih =>
    intro k off cs h
    simp only [List.length_cons] at h
    simp only [List.zipIdx_cons, List.foldl_cons]
    rw [ih (k + 1) off _ (by simp; omega)]
    have e1 : (cs.set (off + k) x).take (off + (k + 1)) = cs.take (off + k) ++ [x] := by
      rw [show off + (k + 1) = (off + k) + 1 by omega, List.take_add_one, List.take_set_of_le (by omega), List.getElem?_set_self (by omega)]; rfl
    have e2 : (cs.set (off + k) x).drop (off + (k + 1) + v.length) = cs.drop (off + k + (x :: v).length) := by
      rw [List.drop_set_of_lt (by omega)]; simp only [List.length_cons]; congr 1; omega
    rw [e1, e2]; simp
theorem fold_toArray (off : Nat) : ∀ (v : List (Value × Nat)) (cs : List Value), v.foldl (fun (a : Array Value) (x : Value × Nat) => a.setIfInBounds (off + x.2) x.1) cs.toArray = (v.foldl (fun l (x : Value × Nat) => l.set (off + x.2) x.1) cs).toArray
  | [], _ => rfl
  | x :: v, cs => by simp only [List.foldl_cons]; rw [← fold_toArray off v]; congr 1; simp
theorem fill_eq {place : Nat → Option (Nat × Nat)} {pl : List (Nat × Nat)} (hp : ∀ i x, pl[i]? = some x → place i = some x) : ∀ (parts : List (Nat × Value)) (pv : List (Nat × List Value)) (cs out : List Value),
    parts.map (fun x => (x.1, x.2.cells)) = pv.map (fun x => (x.1, x.2.toArray)) → fillL pl cs pv = some out → Instr.fill place cs.toArray parts = some out.toArray
  | [], [], cs, out, _, h => by simp only [fillL, Option.some.injEq] at h; subst h; rfl
  | [], _ :: _, _, _, h, _ => by simp at h
  | _ :: _, [], _, _, h, _ => by simp at h
  | (i, v) :: r, (j, l) :: q, cs, out, h, h2 => by
    simp only [List.map_cons, List.cons.injEq, Prod.mk.injEq] at h
    obtain ⟨⟨rfl, hv⟩, hr⟩ := h
    simp only [fillL] at h2
    cases e : pl[i]? with
    | none => rw [e] at h2; cases h2
    | some x =>
      obtain ⟨off, s⟩ := x
      rw [e] at h2
      simp only at h2
      split at h2
      · rename_i hc
        have := fill_eq hp r q _ out hr h2
        simp only [Instr.fill, hp i _ e, hv, List.size_toArray]
        rw [if_neg (by have := hc.2; simp [hc.1] at this ⊢; omega)]
        rw [← this, set_seg cs l off hc.2, ← fold_toArray, ← Array.foldl_toList, Array.toList_zipIdx]
      · cases h2
/-- The places of a type's parts, and its zero cells. -/
def BuildIs (P : Program) (t : TypeId) (pl : List (Nat × Nat)) (z : List Value) : Prop :=
  ∀ parts pv out, parts.map (fun (x : Nat × Value) => (x.1, x.2.cells)) = pv.map (fun (x : Nat × List Value) => (x.1, x.2.toArray)) → fillL pl z pv = some out → P.built t parts = some out.toArray
theorem BuildIs.struct {P : Program} {t : TypeId} {fs : Array Field} {z0 : Value} {s y : Nat} {z : List Value} {pl : List (Nat × Nat)} (hu : P.underlying t = some (.struct fs)) (hi : TI P t z0 s y) (hz : z0.cells = z.toArray)
    (hp : fs.toList.mapM (fun f => (P.info? f.type).map fun i => (f.offset, i.size)) = some pl) : BuildIs P t pl z := fun parts pv out h1 h2 => by
  obtain ⟨i, i1, i2, i3, i4⟩ := hi.out
  unfold Program.built
  simp only [i1, hu, i2, hp, hz]
  exact fill_eq (fun j x hx => by simpa using hx) parts pv z out h1 h2
theorem BuildIs.array {P : Program} {t e : TypeId} {n : Nat} {z0 ze : Value} {s y se ye : Nat} {z : List Value} (hu : P.underlying t = some (.array n e)) (hi : TI P t z0 s y) (hz : z0.cells = z.toArray) (he : TI P e ze se ye) :
    BuildIs P t ((List.range n).map fun i => (i * se, se)) z := fun parts pv out h1 h2 => by
  obtain ⟨i, i1, i2, i3, i4⟩ := hi.out
  obtain ⟨j, j1, j2, j3, j4⟩ := he.out
  unfold Program.built
  simp only [i1, hu, i2, j1, hz, j3]
  refine fill_eq (fun k x hx => ?_) parts pv z out h1 h2
  simp only [List.getElem?_map, Option.map_eq_some_iff, List.getElem?_eq_some_iff, List.getElem_range] at hx
  obtain ⟨a, ⟨_, rfl⟩, rfl⟩ := hx
  rfl

/- comparing -/
def fieldInts (P : Program) : Nat → List Field → List IntKind → Prop
  | _, [], [] => True
  | off, f :: fs, k :: ks => f.name ≠ "_" ∧ f.offset = off ∧ P.underlying f.type = some (.int k) ∧ fieldInts P (off + 1) fs ks
  | _, _, _ => False
def fieldIntsB (P : Program) : Nat → List Field → List IntKind → Bool
  | _, [], [] => true
  | off, f :: fs, k :: ks => f.name != "_" && Nat.beq f.offset off && (match P.underlying f.type with | some (.int k') => decide (k' = k) | _ => false) && fieldIntsB P (off + 1) fs ks
  | _, _, _ => false
theorem fieldIntsB_ok {P : Program} : ∀ {off : Nat} {fs : List Field} {ks : List IntKind}, fieldIntsB P off fs ks = true → fieldInts P off fs ks
  | _, [], [], _ => trivial
  | off, f :: fs, k :: ks, h => by
    simp only [fieldIntsB, Bool.and_eq_true] at h
    obtain ⟨⟨⟨h1, h2⟩, h3⟩, h4⟩ := h
    refine ⟨by simpa using h1, Nat.eq_of_beq_eq_true h2, ?_, fieldIntsB_ok h4⟩
    split at h3
    · rename_i k' e; rw [e, of_decide_eq_true h3]
    · cases h3
  | _, [], _ :: _, h => by cases h
  | _, _ :: _, [], h => by cases h
structure FlatInts (P : Program) (t : TypeId) (ks : List IntKind) : Prop where
  und : P.underlying t = some (.struct (P.fieldsOf t))
  stood : P.stoodInHeld t = false
  guard : P.eqGuardType P.depth t = false
  flds : fieldInts P 0 (P.fieldsOf t).toList ks
def zipV (ks : List IntKind) (as : List Int) : List Value := List.zipWith Value.int ks as
theorem run_part_int {P : Program} {e : TypeId} {k : IntKind} (he : P.underlying e = some (.int k)) {xs : Array Value} {off : Nat} {v : Value} (hx : xs[off]? = some v) (w : World) : (part e xs off).run P w = .ok v w := by
  have : (isAgg e).run P w = .ok false w := by simp [isAgg, run_underlying he]
  simp [part, this, hx]
theorem eqFields_ints {P : Program} (d : Nat) (w : World) : ∀ (fs : List Field) (ks : List IntKind) (off : Nat) (A B as bs : List Value) (x y : List Int), fieldInts P off fs ks → x.length = ks.length → y.length = ks.length →
    as = A ++ zipV ks x → bs = B ++ zipV ks y → A.length = off → B.length = off → (Op.eqFields (d + 1) as.toArray bs.toArray fs).run P w = .ok (decide (x = y)) w
  | [], [], _, _, _, _, _, x, y, _, h1, h2, _, _, _, _ => by
    have : x = [] := List.eq_nil_of_length_eq_zero h1
    have : y = [] := List.eq_nil_of_length_eq_zero h2
    subst_vars; simp [Op.eqFields]
  | f :: fs, k :: ks, off, A, B, as, bs, x, y, h, h1, h2, ha, hb, hA, hB => by
    obtain ⟨f1, f2, f3, f4⟩ := h
    cases x with
    | nil => simp at h1
    | cons p x =>
      cases y with
      | nil => simp at h2
      | cons q y =>
        have a1 : as.toArray[f.offset]? = some (.int k p) := by rw [ha, f2, ← hA]; simp [zipV]
        have b1 : bs.toArray[f.offset]? = some (.int k q) := by rw [hb, f2, ← hB]; simp [zipV]
        simp only [Op.eqFields]
        rw [if_pos f1]
        simp only [Sem.run_bind, run_part_int f3 a1, run_part_int f3 b1, Result.andThen_ok, run_equalIn_int w d f.type k k p q f3]
        by_cases hpq : p = q
        · subst hpq
          simp only [beq_self_eq_true, Bool.not_true, Bool.false_eq_true, if_false]
          rw [eqFields_ints d w fs ks (off + 1) (A ++ [.int k p]) (B ++ [.int k p]) as bs x y f4 (by simpa using h1) (by simpa using h2) (by rw [ha]; simp [zipV]) (by rw [hb]; simp [zipV]) (by simp [hA]) (by simp [hB])]
          simp
        · have : (p == q) = false := by simpa using hpq
          simp [this, hpq]
  | [], _ :: _, _, _, _, _, _, _, _, h, _, _, _, _, _, _ => by cases h
  | _ :: _, [], _, _, _, _, _, _, _, h, _, _, _, _, _, _ => by cases h

section
variable {P : Program} {C : Cx} {N : Nat} {K : K3} {Q : Ex → K3} {env : Env} {V : HV} {σ : Res} {ops : Array Oper} {rest : List Oper} {Φ : Value → HV → Res → Prop}
variable {dst : Option Nat} {k : Nat} {x y : Operand} {t T E : TypeId} {pos : String} {af : Array Edge} {g : Option (Nat × Bool)} {v : Value}

theorem run_loadAgg {P : Program} {T : TypeId} {b off s : Nat} {cs vs : List Value} {w : World} {T' : TypeId} {fz : Nat × Nat} (hA : AggIs P T s) (h : w.heap[b]? = some (.cells cs.toArray T' fz)) (hs : (cs.drop off).take s = vs) (hl : vs.length = s) :
    (loadVar T ⟨b, off, none⟩).run P w = .ok (.agg vs.toArray) w := by
  have hc : ∀ j v, vs[j]? = some v → w.cell? ((⟨b, off, none⟩ : Addr).add j) = some v := fun j v hj => by
    have hadd : (⟨b, off, none⟩ : Addr).add j = ⟨b, off + j, none⟩ := by unfold Addr.add; split <;> simp_all
    rw [hadd]
    have : cs[off + j]? = some v := by
      rw [← hs, List.getElem?_take] at hj
      split at hj
      · rwa [List.getElem?_drop] at hj
      · cases hj
    simp [World.cell?, h, this]
  have := run_loadCells_list (P := P) w ⟨b, off, none⟩ vs hc
  rw [hl] at this
  simp [loadVar, run_agg hA, run_sizeOf hA.2, this]

theorem qv_ldm {b off s : Nat} {cs vs : List Value} (hA : AggIs P T s) (hx : ev env x = .pointer (some ⟨b, off, none⟩)) (hv' : In C V σ (fun H => Cells H b cs)) (hs : (cs.drop off).take s = vs) (hl : vs.length = s) :
    QV P C ⟨dst, .load T x, t, pos, af, g⟩ env V σ (.agg vs.toArray) := qv_run fun w hm => by
  obtain ⟨T', fz, h⟩ := hv' w hm
  have h : w.heap[b]? = some (.cells cs.toArray T' fz) := h
  simp [execOp, hx, Instr.loadAt, Instr.sureAddr, run_loadAgg hA h hs hl]

theorem ops_stm {b off s : Nat} {cs vs cs' : List Value} (hS : SizeIs P T s) (hx : ev env x = .pointer (some ⟨b, off, none⟩)) (hy : ev env y = v) (hv : v.cells = vs.toArray) (hl : vs.length = s) (h1 : vs.all (·.oneCell') = true) (hk : σ[k]? = some (Arr E b cs))
    (ho : off + vs.length ≤ cs.length) (hc : cs.take off ++ vs ++ cs.drop (off + vs.length) = cs')
    (h : Ops P C N ops K rest env V (σ.set k (Arr E b cs'))) : Ops P C N ops K (⟨none, .store T x y, t, pos, af, none⟩ :: rest) env V σ := fun a w hf hm => by
  refine wpList_plain rfl fun K' hK' => ?_
  unfold Oper.wp
  have hb := (hm.blk hk).1
  have hb : w.heap[b]? = some (.cells cs.toArray E (0, 0)) := hb
  have hst := run_storeCells_at P b off E vs 0 cs.toArray w hb (by simpa using ho) (fun v hv => by simpa using List.all_eq_true.1 h1 v hv)
  have hrow : w.setRow b cs'.toArray = { w with heap := w.heap.setIfInBounds b (.cells cs'.toArray E (0, 0)) } := by
    unfold World.setRow
    congr 1
    have hlt : b < w.heap.size := hv_lt (w := w) hb
    apply Array.ext
    · simp
    · intro i q1 q2
      simp only [Array.getElem_modify]
      by_cases hi : b = i
      · subst hi
        have : w.heap[b] = .cells cs.toArray E (0, 0) := by rw [Array.getElem?_eq_getElem hlt] at hb; exact Option.some.inj hb
        simp [this]
      · rw [if_neg hi, Array.getElem_setIfInBounds_ne _ hi]
  have e : (execOp (ev env) ⟨none, .store T x y, t, pos, af, none⟩).run P w = .ok .skip { w with heap := w.heap.setIfInBounds b (.cells cs'.toArray E (0, 0)) } := by
    rw [← hrow, ← hc]
    simp only [Nat.add_zero] at hst
    simp [execOp, hx, hy, Instr.storeAt, Instr.sureAddr, storeVar, run_sizeOf hS, hv, hl, hst]
  rw [hf.eval, e]
  exact hK' _ _ (h _ _ (hf.put none _) (hm.setBlk hk _ _ rfl))

/-- a whole variable written -/
theorem ops_stw {b s : Nat} {cs vs : List Value} (hS : SizeIs P T s) (hx : ev env x = .pointer (some ⟨b, 0, none⟩)) (hy : ev env y = .agg vs.toArray) (hl : vs.length = s) (h1 : vs.all (·.oneCell') = true) (hk : σ[k]? = some (Arr E b cs)) (hc : cs.length = vs.length)
    (h : Ops P C N ops K rest env V (σ.set k (Arr E b vs))) : Ops P C N ops K (⟨none, .store T x y, t, pos, af, none⟩ :: rest) env V σ :=
  ops_stm (off := 0) hS hx hy rfl hl h1 hk (by omega) (by simp [← hc]) h
theorem qv_build {pl : List (Nat × Nat)} {z out : List Value} {parts : List (Nat × Operand)} (hB : BuildIs P t pl z) (pv : List (Nat × List Value)) (hp : parts.map (fun x => (x.1, (ev env x.2).cells)) = pv.map (fun x => (x.1, x.2.toArray))) (ho : fillL pl z pv = some out) :
    QV P C ⟨dst, .build t parts.toArray, T, pos, af, g⟩ env V σ (.agg out.toArray) := qv_run fun w _ => by
  have := run_build w t (parts.map fun x => (x.1, ev env x.2)).toArray out.toArray (hB _ pv out (by simpa [Function.comp_def] using hp) ho)
  simp only [execOp]
  have e : (parts.toArray.map fun (x : Nat × Operand) => (x.1, ev env x.2)) = (parts.map fun x => (x.1, ev env x.2)).toArray := by simp
  rw [show (Array.map (fun (i, x) => (i, ev env x)) parts.toArray) = (parts.map fun x => (x.1, ev env x.2)).toArray from e]
  simp [this]

theorem run_eq_ints {ks : List IntKind} (hF : FlatInts P T ks) {as bs : List Value} (a b : List Int) (ha : as = zipV ks a) (hb : bs = zipV ks b) (h1 : a.length = ks.length) (h2 : b.length = ks.length) (w : World) :
    (Op.equalIn 10000 T (.agg as.toArray) (.agg bs.toArray)).run P w = .ok (decide (a = b)) w := by
  rw [show (10000 : Nat) = 9998 + 1 + 1 by rfl, run_equalIn_struct w (9998 + 1) T as.toArray bs.toArray hF.und hF.stood]
  exact eqFields_ints 9998 w _ ks 0 [] [] as bs a b hF.flds h1 h2 (by simpa using ha) (by simpa using hb) rfl rfl
theorem aggc {as bs : List Value} (h : as = bs) : Value.agg as.toArray = Value.agg bs.toArray := by rw [h]
theorem consc {a b : Value} {as bs : List Value} (h : a = b) (h2 : as = bs) : a :: as = b :: bs := by rw [h, h2]
theorem tup2 {a b c d : Value} (h1 : a = c) (h2 : b = d) : Value.tuple #[a, b] = Value.tuple #[c, d] := by rw [h1, h2]
theorem qv_niffb {p q : Prop} {ip : Decidable p} {iq : Decidable q} [i : Decidable (¬ (p ↔ q))] {t2 : TypeId} (hT : P.underlying T = some .bool) (hx : ev env x = .bool (@decide p ip)) (hy : ev env y = .bool (@decide q iq)) :
    QV P C ⟨dst, .binOp .neq T x y t2, t, pos, af, g⟩ env V σ (.bool (decide (¬ (p ↔ q)))) := qv_run fun w _ => by
  have e : (!(decide p == decide q)) = decide (¬ (p ↔ q)) := by by_cases h : p <;> by_cases h' : q <;> simp [h, h']
  rw [← e]; simp [execOp, hx, hy, eqGuard, binOp, run_equal_bool hT]
/-- An element of an array's value. -/
theorem qv_idx {n : Nat} {cs : List Value} {i : Int} {kk : IntKind} (hu : P.underlying T = some (.array n E)) (hP : Plain P E) (hS : SizeIs P E 1) (hx : ev env x = .agg cs.toArray) (hy : ev env y = .int kk i) (h0 : 0 ≤ i) (h1 : i < n) (hc : cs[i.toNat]? = some v) :
    QV P C ⟨dst, .index T x y, t, pos, af, g⟩ env V σ v := qv_run fun w _ => by
  have : (part E cs.toArray i.toNat).run P w = .ok v w := by simp [part, run_plain hP, hc]
  simp only [execOp, hx, hy, Instr.index, asIntOf]
  simp [run_underlying hu, run_sizeOf hS, h0, h1, this]

theorem perm_idx (l l' : Res) (p : List Nat) (hp : p.isPerm (List.range l.length) = true) (h : p.map (fun i => l.getD i (fun _ => True)) = l') : l.Perm l' := by
  have h1 : (List.range l.length).map (fun i => l.getD i (fun _ => True)) = l := by
    apply List.ext_getElem
    · simp
    · intro i h1 h2
      simp at h1
      simp [List.getD_eq_getElem?_getD, List.getElem?_eq_getElem h1]
  have h2 := (List.isPerm_iff.1 hp).map (fun i => l.getD i (fun _ => True))
  rw [h1, h] at h2
  exact h2.symm
/-- What is owned, written out. -/
theorem vc_res {c : Code} {σ' : Res} (h : σ = σ') (k : VC P C N c K Q env V σ') : VC P C N c K Q env V σ := h ▸ k
/- results -/
def resV (env : Env) : ResultVar → Sem Value
  | .tmp t => pure (env t)
  | .cell a t => do loadVar t (← asAddr (env a))
theorem resultsE_eq (rs : Array ResultVar) (env : Env) : resultsE rs env = (do let vs ← rs.mapM (resV env); pure (if h : vs.size = 1 then vs[0] else .tuple vs)) := by
  unfold resultsE resV; rfl
def RV (P : Program) (C : Cx) (env : Env) (V : HV) (σ : Res) (r : ResultVar) (v : Value) : Prop := ∀ w, Mem C V σ w → (resV env r).run P w = .ok v w
theorem rv_t {t : Nat} (e : env t = v) : RV P C env V σ (.tmp t) v := fun w _ => by simp [resV, e]
theorem rv_c {a b off s : Nat} {cs vs : List Value} (hA : AggIs P T s) (hx : env a = .pointer (some ⟨b, off, none⟩)) (hv' : In C V σ (fun H => Cells H b cs)) (hs : (cs.drop off).take s = vs) (hl : vs.length = s) : RV P C env V σ (.cell a T) (.agg vs.toArray) := fun w hm => by
  obtain ⟨T', fz, h⟩ := hv' w hm
  have h : w.heap[b]? = some (.cells cs.toArray T' fz) := h
  simp [resV, hx, asAddr, run_loadAgg hA h hs hl]
theorem rs1 {r : ResultVar} (v : Value) (e : RV P C env V σ r v) (h : Φ v V σ) : RetQ P C #[r] Φ .ret env V σ := ⟨_, fun w hm => by simp [resultsE_eq, e w hm], h⟩
theorem rs2 {r1 r2 : ResultVar} (v1 v2 : Value) (e1 : RV P C env V σ r1 v1) (e2 : RV P C env V σ r2 v2) (h : Φ (.tuple #[v1, v2]) V σ) : RetQ P C #[r1, r2] Φ .ret env V σ :=
  ⟨_, fun w hm => by simp [resultsE_eq, e1 w hm, e2 w hm], h⟩
theorem rs3 {r1 r2 r3 : ResultVar} (v1 v2 v3 : Value) (e1 : RV P C env V σ r1 v1) (e2 : RV P C env V σ r2 v2) (e3 : RV P C env V σ r3 v3) (h : Φ (.tuple #[v1, v2, v3]) V σ) : RetQ P C #[r1, r2, r3] Φ .ret env V σ :=
  ⟨_, fun w hm => by simp [resultsE_eq, e1 w hm, e2 w hm, e3 w hm], h⟩
end
end Go.Vc

/- Unsigned numbers: sums, products, masks, shifts. No program in sight. -/
namespace Go.Vc
open Go Go.RowKit
theorem u64_wrap (n : Int) : IntKind.u64.wrap n = n % 18446744073709551616 := by
  unfold IntKind.wrap
  simp [IntKind.bits, IntKind.signed]
theorem u64_in {n : Int} (h0 : 0 ≤ n) (h1 : n < 18446744073709551616) : IntKind.u64.wrap n = n := by rw [u64_wrap]; exact Int.emod_eq_of_lt h0 h1
section
variable {P : Program} {C : Cx} {N : Nat} {env : Env} {V : HV} {σ : Res}
variable {dst : Option Nat} {k k2 : IntKind} {m n r : Int} {x y : Operand} {t T T' E : TypeId} {pos : String} {af : Array Edge} {g : Option (Nat × Bool)} {v : Value}
theorem qv_addu (hx : ev env x = .int .u64 m) (hy : ev env y = .int .u64 n) (hb : 0 ≤ m + n ∧ m + n < 18446744073709551616) : QV P C ⟨dst, .binOp .add T x y T', t, pos, af, g⟩ env V σ (.int .u64 (m + n)) := qv_addk hx hy (u64_in hb.1 hb.2)
theorem qv_mulu (hx : ev env x = .int .u64 m) (hy : ev env y = .int .u64 n) (hb : 0 ≤ m * n ∧ m * n < 18446744073709551616) : QV P C ⟨dst, .binOp .mul T x y T', t, pos, af, g⟩ env V σ (.int .u64 (m * n)) := qv_mulk hx hy (u64_in hb.1 hb.2)
theorem qv_mulw (hx : ev env x = .int .u64 m) (hy : ev env y = .int .u64 n) : QV P C ⟨dst, .binOp .mul T x y T', t, pos, af, g⟩ env V σ (.int .u64 ((m * n) % 18446744073709551616)) := qv_mulk hx hy (u64_wrap _)
theorem run_shr {w : World} (h0 : 0 ≤ n) : (binOp .shr T (.int k m) (.int k2 n)).run P w = .ok (.int k (m.fdiv (2 ^ (min n.toNat k.bits)))) w := by
  simp only [binOp, Op.shift]
  rw [if_neg (by omega)]; simp
theorem qv_shru (hx : ev env x = .int .u64 m) (hy : ev env y = .int k2 n) (h0 : 0 ≤ n) (h1 : n ≤ 64) : QV P C ⟨dst, .binOp .shr T x y T', t, pos, af, g⟩ env V σ (.int .u64 (m / 2 ^ n.toNat)) := qv_run fun w _ => by
  have e : min n.toNat IntKind.u64.bits = n.toNat := by show min n.toNat 64 = n.toNat; omega
  have := run_shr (P := P) (T := T) (k := .u64) (k2 := k2) (m := m) (n := n) (w := w) h0
  rw [e, Int.fdiv_eq_ediv_of_nonneg _ (Int.le_of_lt (Int.pow_pos (by omega)))] at this
  simp [execOp, hx, hy, eqGuard, this]
/-- Shifts by a number that is written out. -/
theorem qv_shrc (hx : ev env x = .int .u64 m) (hy : ev env y = .int k2 n) (p : Int) (h0 : 0 ≤ n) (h1 : n ≤ 64) (hp : (2 : Int) ^ n.toNat = p) : QV P C ⟨dst, .binOp .shr T x y T', t, pos, af, g⟩ env V σ (.int .u64 (m / p)) := hp ▸ qv_shru hx hy h0 h1
theorem and_mask {m : Int} : ((BitVec.ofInt 64 m &&& BitVec.ofInt 64 4294967295).toNat : Int) = m % 4294967296 := by
  have e2 : (BitVec.ofInt 64 4294967295).toNat = 2 ^ 32 - 1 := by decide
  have e1 : ((BitVec.ofInt 64 m).toNat : Int) = m % 18446744073709551616 := by rw [BitVec.toNat_ofInt]; simp; omega
  rw [BitVec.toNat_and, e2, Nat.and_two_pow_sub_one_eq_mod]
  omega
theorem qv_and32 (hx : ev env x = .int .u64 m) (hy : ev env y = .int .u64 4294967295) (h0 : 0 ≤ m) : QV P C ⟨dst, .binOp .and T x y T', t, pos, af, g⟩ env V σ (.int .u64 (m % 4294967296)) := qv_run fun w _ => by
  have e : IntKind.u64.wrap ((BitVec.ofInt 64 m &&& BitVec.ofInt 64 4294967295).toNat : Int) = m % 4294967296 := by
    rw [and_mask]; exact u64_in (by omega) (by omega)
  have e' : (Op.intBits .and .u64 m 4294967295).run P w = .ok (.int .u64 (m % 4294967296)) w := by
    show (pure (Value.int .u64 (IntKind.u64.wrap ((BitVec.ofInt 64 m &&& BitVec.ofInt 64 4294967295).toNat : Int))) : Sem Value).run P w = _
    rw [e]; rfl
  simp [execOp, hx, hy, eqGuard, binOp, e']
/-- A byte of a string. -/
def sAt (s : ByteArray) (i : Int) : Int := ((s[i.toNat]?).getD 0).toNat
theorem qv_idxs {s : ByteArray} {i : Int} (hu : P.underlying T = some .string) (hx : ev env x = .string s) (hy : ev env y = .int k i) (h0 : 0 ≤ i) (h1 : i < s.size) : QV P C ⟨dst, .index T x y, t, pos, af, g⟩ env V σ (.int .u8 (sAt s i)) := qv_run fun w _ => by
  have hlt : i.toNat < s.size := by omega
  have e : s[i.toNat]? = some s[i.toNat] := getElem?_pos s i.toNat hlt
  simp only [execOp, hx, hy, Instr.index, asIntOf]
  simp [run_underlying hu, h0, e, sAt]
theorem qv_convk {S : TypeId} {d : TypeDesc} (hS : P.underlying S = some d) (hT : P.underlying T = some (.int k2)) (hx : ev env x = .int k m) (hw : k2.wrap m = r) : QV P C ⟨dst, .convert S T x, t, pos, af, g⟩ env V σ (.int k2 r) := qv_run fun w _ => by
  have e : (convert S T (.int k m)).run P w = .ok (.int k2 r) w := by
    unfold convert
    simp only [Sem.run_bind, run_underlying hS, run_underlying hT, Result.andThen_ok]
    simp [Conv.intToInt, hw]
  simp [execOp, hx, e]
end
end Go.Vc
