/- A small logic over the kit's Code.wp: frames as functions, memory as an unchanging view and a list of owned pieces. No program in sight. -/
import Derived.Deep.Quiet
import Derived.StillTail
import Derived.Deep.LoopGhost
import Derived.Below
import Derived.KernelRfl
namespace Go.Vc
open Go.RowKit

/- FRAMES -/
abbrev Env := Nat → Value
def upd (N : Nat) (e : Env) (d : Nat) (v : Value) : Env := fun t => bif (Nat.beq t d && Nat.blt d N) then v else e t
def updO (N : Nat) (e : Env) (d : Option Nat) (v : Value) : Env := match d with | some d => upd N e d v | none => e
def ev (e : Env) : Operand → Value
  | .tmp t => e t
  | .const v => v
  | .global g => .pointer (some ⟨g, 0, none⟩)
  | .func f => .func (.func f) #[] #[]

structure Fr (N : Nat) (e : Env) (a : Act) : Prop where
  defers : a.defers = []
  size : a.tmps.size = N
  get : ∀ t, a.tmps.getD t undef = e t

theorem Fr.eval {N : Nat} {e : Env} {a : Act} (h : Fr N e a) : a.eval = ev e := by
  funext x; cases x <;> simp [Act.eval, ev, h.get]

theorem getD_setIf (xs : Array Value) (d : Nat) (v : Value) (t : Nat) :
    (xs.setIfInBounds d v).getD t undef = bif (Nat.beq t d && Nat.blt d xs.size) then v else xs.getD t undef := by
  by_cases h1 : t = d
  · subst h1
    by_cases h2 : t < xs.size
    · have hb : Nat.blt t xs.size = true := by simp [Nat.blt_eq, h2]
      simp [Array.getD, h2, hb]
    · have hb : Nat.blt t xs.size = false := by
        rw [← Bool.not_eq_true, Nat.blt_eq]; exact h2
      simp [Array.getD, h2, hb]
  · have hb : Nat.beq t d = false := by
      rw [← Bool.not_eq_true, Nat.beq_eq]; exact h1
    rw [hb]
    simp only [Bool.false_and, cond_false, Array.getD, Array.size_setIfInBounds]
    by_cases h2 : t < xs.size
    · have : d ≠ t := fun e => h1 e.symm
      simp [h2, this]
    · simp [h2]

theorem Fr.put {N : Nat} {e : Env} {a : Act} (h : Fr N e a) (d : Option Nat) (v : Value) : Fr N (updO N e d v) (a.put d v) := by
  cases d with
  | none => exact h
  | some d =>
    refine ⟨h.defers, by simp [Act.put, h.size], fun t => ?_⟩
    have hs := h.size
    subst hs
    simp only [Act.put, updO, upd, getD_setIf, h.get]

def yieldE (ops : Array Oper) (e : Env) (j : Nat) : Option Bool :=
  match (ops[j]?).bind (·.dst) with
  | some d => (match e d with | .bool b => some b | _ => none)
  | none => none

theorem Fr.yielded {N : Nat} {e : Env} {a : Act} (h : Fr N e a) (ops : Array Oper) : yielded ops a.tmps = yieldE ops e := by
  funext j
  unfold Go.yielded yieldE
  cases hd : (ops[j]?).bind (·.dst) with
  | none => rfl
  | some d =>
    simp only [Option.bind_some]
    have := h.get d
    by_cases hl : d < a.tmps.size
    · rw [Array.getElem?_eq_getElem hl]
      simp only [Array.getD, hl, dite_true] at this
      have e2 : a.tmps[d] = e d := this
      rw [e2]
      cases e d <;> rfl
    · rw [Array.getElem?_eq_none (Nat.le_of_not_lt hl)]
      simp only [Array.getD, hl, dite_false] at this
      rw [← this]; rfl

/- HEAPS -/
abbrev HV := Nat → Option Obj
def hv (w : World) : HV := fun b => w.heap[b]?
def Sub (g h : HV) : Prop := ∀ b o, g b = some o → h b = some o
def Disj (g h : HV) : Prop := ∀ b, g b = none ∨ h b = none
abbrev Asrt := HV → Prop
abbrev Res := List Asrt
def one (b : Nat) (o : Obj) : HV := fun c => if c = b then some o else none
def plus (g h : HV) : HV := fun b => match g b with | some o => some o | none => h b

theorem Sub.refl (g : HV) : Sub g g := fun _ _ h => h
theorem Sub.trans {f g h : HV} (h1 : Sub f g) (h2 : Sub g h) : Sub f h := fun b o hb => h2 b o (h1 b o hb)
theorem Disj.symm {g h : HV} (d : Disj g h) : Disj h g := fun b => (d b).symm
theorem sub_plus_left (g h : HV) : Sub g (plus g h) := fun b o hb => by simp [plus, hb]
theorem sub_plus_right {g h : HV} (d : Disj g h) : Sub h (plus g h) := fun b o hb => by
  rcases d b with e | e
  · simp [plus, e, hb]
  · rw [e] at hb; cases hb
theorem sub_plus {g h k : HV} (h1 : Sub g k) (h2 : Sub h k) : Sub (plus g h) k := fun b o hb => by
  unfold plus at hb
  cases e : g b with
  | some o' => simp only [e] at hb; cases hb; exact h1 _ _ e
  | none => simp only [e] at hb; exact h2 _ _ hb
theorem hv_lt {w : World} {b : Nat} {o : Obj} (h : hv w b = some o) : b < w.heap.size := by
  unfold hv at h
  rcases Nat.lt_or_ge b w.heap.size with h1 | h1
  · exact h1
  · rw [Array.getElem?_eq_none h1] at h; cases h

def Sat : Res → List HV → Prop
  | [], [] => True
  | A :: σ, h :: hs => A h ∧ Sat σ hs
  | _, _ => False

def dom (hs : List HV) : Nat → Prop := fun b => ∃ h ∈ hs, h b ≠ none

/-- The call's own frame: its program, the world, the view and the owned blocks when it began. -/
structure Cx where
  w0 : World
  V0 : HV
  D : Nat → Prop

structure Mem (C : Cx) (V : HV) (σ : Res) (w : World) : Prop where
  os : w.os = C.w0.os
  tape : w.tape = C.w0.tape
  output : w.output = C.w0.output
  size : C.w0.heap.size ≤ w.heap.size
  frame : ∀ b, b < C.w0.heap.size → ¬ C.D b → w.heap[b]? = C.w0.heap[b]?
  sub : Sub C.V0 V
  view : Sub V (hv w)
  vold : ∀ b, b < C.w0.heap.size → ¬ C.D b → V b = C.V0 b
  own : ∃ hs, Sat σ hs ∧ hs.Pairwise Disj ∧ ∀ h ∈ hs, Sub h (hv w) ∧ Disj h V ∧ ∀ b, b < C.w0.heap.size → h b ≠ none → C.D b

theorem Mem.drawn {C : Cx} {V : HV} {σ : Res} {w : World} (m : Mem C V σ w) (n : Nat) : Mem C V σ { w with drawn := n } :=
  ⟨m.os, m.tape, m.output, m.size, m.frame, m.sub, m.view, m.vold, m.own⟩

/-- What was there stays; new blocks may have come. -/
def Ext (w w' : World) : Prop := Below w.heap.size w w'

theorem Ext.refl (w : World) : Ext w w := Below.refl _ _
theorem Ext.hv {w w' : World} (h : Ext w w') : Sub (hv w) (hv w') := fun b o hb => by
  have := h.block b (hv_lt hb)
  unfold Go.Vc.hv at *; rw [this]; exact hb
theorem Ext.trans {a b c : World} (h : Ext a b) (k : Ext b c) : Ext a c := Below.trans h (Below.mono k h.size)

theorem Mem.ext {C : Cx} {V : HV} {σ : Res} {w w' : World} (m : Mem C V σ w) (h : Ext w w') : Mem C V σ w' := by
  obtain ⟨hs, h1, h2, h3⟩ := m.own
  refine ⟨h.os.trans m.os, h.tape.trans m.tape, h.output.trans m.output, Nat.le_trans m.size h.size, fun b hb hd => ?_, m.sub, m.view.trans h.hv, m.vold,
    hs, h1, h2, fun x hx => ⟨(h3 x hx).1.trans h.hv, (h3 x hx).2⟩⟩
  rw [h.block b (Nat.lt_of_lt_of_le hb m.size)]; exact m.frame b hb hd

/- CODE -/
inductive Ex where
  | exit (id : Nat)
  | goto (l : Nat)
  | ret

abbrev K3 := Env → HV → Res → Prop

def lift (C : Cx) (N : Nat) (K : K3) (Q : Ex → K3) : Exit → Act → World → Prop := fun e a w =>
  ∃ env V σ, Fr N env a ∧ Mem C V σ w ∧ match e with
    | .normal => K env V σ
    | .exit id => Q (.exit id) env V σ
    | .goto l => Q (.goto l) env V σ
    | .ret => Q .ret env V σ
    | _ => False

def VC (P : Program) (C : Cx) (N : Nat) (c : Code) (K : K3) (Q : Ex → K3) (env : Env) (V : HV) (σ : Res) : Prop :=
  ∀ a w, Fr N env a → Mem C V σ w → c.wp P (lift C N K Q) a w

section
variable {P : Program} {C : Cx} {N : Nat} {K : K3} {Q : Ex → K3} {env : Env} {V : HV} {σ : Res}

theorem vc_skip (h : K env V σ) : VC P C N .skip K Q env V σ := fun _ _ hf hm => wp_skip ⟨_, _, _, hf, hm, h⟩
theorem vc_label {l : Nat} (h : K env V σ) : VC P C N (.label l) K Q env V σ := fun _ _ hf hm => wp_label ⟨_, _, _, hf, hm, h⟩
theorem vc_exit {id : Nat} (h : Q (.exit id) env V σ) : VC P C N (.exit id) K Q env V σ := fun _ _ hf hm => wp_exit ⟨_, _, _, hf, hm, h⟩
theorem vc_ret (h : Q .ret env V σ) : VC P C N .ret K Q env V σ := fun _ _ hf hm => wp_ret ⟨_, _, _, hf, hm, h⟩

theorem vc_seq {x y : Code} (h : VC P C N x (fun e V σ => VC P C N y K Q e V σ) Q env V σ) : VC P C N (.seq x y) K Q env V σ := fun a w hf hm => by
  refine wp_seq (wp_mono (h a w hf hm) ?_)
  rintro e a' w' ⟨env', V', σ', hf', hm', hh⟩
  cases e with
  | normal => exact hh _ _ hf' hm'
  | exit id => exact ⟨env', V', σ', hf', hm', hh⟩
  | goto l => exact ⟨env', V', σ', hf', hm', hh⟩
  | ret => exact ⟨env', V', σ', hf', hm', hh⟩
  | panic ch => exact hh.elim
  | outgrown => exact hh.elim

theorem vc_mono {c : Code} {K' : K3} {Q' : Ex → K3} (h : VC P C N c K Q env V σ) (hk : ∀ e V σ, K e V σ → K' e V σ) (hq : ∀ x e V σ, Q x e V σ → Q' x e V σ) :
    VC P C N c K' Q' env V σ := fun a w hf hm => by
  refine wp_mono (h a w hf hm) ?_
  rintro e a' w' ⟨env', V', σ', hf', hm', hh⟩
  refine ⟨env', V', σ', hf', hm', ?_⟩
  cases e <;> first | exact hk _ _ _ hh | exact hq _ _ _ _ hh | exact hh

theorem vc_cond {c : Operand} {x y : Code} {t : Bool} (hc : ev env c = .bool t) (ht : t = true → VC P C N x K Q env V σ) (hf : t = false → VC P C N y K Q env V σ) :
    VC P C N (.cond c x y) K Q env V σ := fun a w hfr hm => by
  refine wp_cond_split (t := t) (by rw [hfr.eval]; exact hc) (fun h => ht h a w hfr hm) (fun h => hf h a w hfr hm)

def blockQ (id : Nat) (K : K3) (Q : Ex → K3) : Ex → K3
  | .exit id' => if id' = id then K else Q (.exit id')
  | e => Q e

theorem blockQ_hit {id : Nat} (h : K env V σ) : blockQ id K Q (.exit id) env V σ := by simp only [blockQ, if_true]; exact h
theorem blockQ_miss {id id' : Nat} (hn : Nat.beq id' id = false) (h : Q (.exit id') env V σ) : blockQ id K Q (.exit id') env V σ := by
  have : id' ≠ id := fun e => by rw [← Nat.beq_eq] at e; rw [hn] at e; cases e
  simp only [blockQ, this, if_false]; exact h
theorem blockQ_ret {id : Nat} (h : Q .ret env V σ) : blockQ id K Q .ret env V σ := h

theorem vc_block {id : Nat} {c : Code} (h : VC P C N c K (blockQ id K Q) env V σ) : VC P C N (.block id c) K Q env V σ := fun a w hf hm => by
  refine wp_block (wp_mono (h a w hf hm) ?_)
  rintro e a' w' ⟨env', V', σ', hf', hm', hh⟩
  cases e with
  | normal => exact ⟨env', V', σ', hf', hm', hh⟩
  | exit id' =>
    simp only [blockQ] at hh
    by_cases h1 : id' = id
    · simp only [h1, if_true] at hh; simp only [Exit.inBlock, h1, if_true]; exact ⟨env', V', σ', hf', hm', hh⟩
    · simp only [h1, if_false] at hh; simp only [Exit.inBlock, h1, if_false]; exact ⟨env', V', σ', hf', hm', hh⟩
  | goto l => exact ⟨env', V', σ', hf', hm', hh⟩
  | ret => exact ⟨env', V', σ', hf', hm', hh⟩
  | panic ch => exact hh.elim
  | outgrown => exact hh.elim

/- slots -/
def upds (N : Nat) : List (Nat × Value) → Env → Env
  | [], e => e
  | (t, v) :: r, e => upd N (upds N r e) t v
def Has (e : Env) : List (Nat × Value) → Prop
  | [] => True
  | (t, v) :: r => e t = v ∧ Has e r

theorem upd_eta {N : Nat} {e : Env} {t : Nat} {v : Value} (h : e t = v) : upd N e t v = e := by
  funext s
  unfold upd
  cases hb : (Nat.beq s t && Nat.blt t N) with
  | false => rfl
  | true =>
    simp only [Bool.and_eq_true, Nat.beq_eq] at hb
    simp only [cond_true]; rw [hb.1, h]
theorem upds_eta {N : Nat} {e : Env} : ∀ {l : List (Nat × Value)}, Has e l → upds N l e = e
  | [], _ => rfl
  | (t, v) :: r, h => by
    show upd N (upds N r e) t v = e
    rw [upds_eta h.2]; exact upd_eta h.1

/-- A loop: its state is an x of any type; the slots that matter are written out as functions of x. -/
theorem vc_loop {α : Type} {c : Code} (S : α → List (Nat × Value)) (I : α → HV → Res → Prop) (μ : α → Nat) (x0 : α) (hs : Has env (S x0)) (h0 : I x0 V σ)
    (round : ∀ x e V σ, I x V σ → VC P C N c (fun e' V' σ' => ∃ x', Has e' (S x') ∧ I x' V' σ' ∧ μ x' < μ x) Q (upds N (S x) e) V σ) : VC P C N (.loop c) K Q env V σ := fun a w hf hm => by
  refine wp_loop_ghost (fun n a w => ∃ x env V σ, μ x = n ∧ Has env (S x) ∧ I x V σ ∧ Fr N env a ∧ Mem C V σ w) (μ x0) ⟨x0, env, V, σ, rfl, hs, h0, hf, hm⟩ ?_
  rintro n a w ⟨x, env, V, σ, rfl, hs, hI, hf, hm⟩
  have hr := round x env V σ hI
  rw [upds_eta hs] at hr
  refine wp_mono (hr a w hf hm) ?_
  rintro e a' w' ⟨env', V', σ', hf', hm', hh⟩
  cases e with
  | normal =>
    obtain ⟨x', hs', hI', hlt⟩ := hh
    exact ⟨μ x', hlt, x', env', V', σ', rfl, hs', hI', hf', hm'⟩
  | exit id => exact ⟨env', V', σ', hf', hm', hh⟩
  | goto l => exact ⟨env', V', σ', hf', hm', hh⟩
  | ret => exact ⟨env', V', σ', hf', hm', hh⟩
  | panic ch => exact hh.elim
  | outgrown => exact hh.elim

/-- The ways through a piece of code meet: only what is said of x goes on. -/
theorem vc_join {α : Type} {c : Code} (S : α → List (Nat × Value)) (I : α → HV → Res → Prop)
    (h : VC P C N c (fun e V σ => ∃ x, Has e (S x) ∧ I x V σ) Q env V σ) (k : ∀ x e V σ, I x V σ → K (upds N (S x) e) V σ) : VC P C N c K Q env V σ :=
  vc_mono h (fun e V σ ⟨x, hs, hI⟩ => by have := k x e V σ hI; rwa [upds_eta hs] at this) (fun _ _ _ _ h => h)

theorem vc_block_join {α : Type} {id : Nat} {c : Code} (S : α → List (Nat × Value)) (I : α → HV → Res → Prop)
    (h : VC P C N c (fun e V σ => ∃ x, Has e (S x) ∧ I x V σ) (blockQ id (fun e V σ => ∃ x, Has e (S x) ∧ I x V σ) Q) env V σ)
    (k : ∀ x e V σ, I x V σ → K (upds N (S x) e) V σ) : VC P C N (.block id c) K Q env V σ :=
  vc_join S I (vc_block h) k

theorem vc_upds {c : Code} (l : List (Nat × Value)) (hs : Has env l) (h : VC P C N c K Q (upds N l env) V σ) : VC P C N c K Q env V σ := by
  rwa [upds_eta hs] at h
end

/- REGIONS -/
def wantedE (o : Oper) (ops : Array Oper) (e : Env) : Bool := Region.wanted o (yieldE ops e)

theorem wantedE_none {o : Oper} {ops : Array Oper} {e : Env} (h : o.guard = none) : wantedE o ops e = true := by simp [wantedE, Region.wanted, h]

/-- ONE OPERATION that leaves the world as it is (or calls a function that does): the value, the same in every world of the kind. -/
def QV (P : Program) (C : Cx) (o : Oper) (env : Env) (V : HV) (σ : Res) (v : Value) : Prop :=
  ∀ w, Mem C V σ w → Oper.quietUpon P (fun w' => Mem C V σ w' ∧ Ext w w') w v ((execOp (ev env) o).run P w)

theorem quietUpon_mono {P : Program} {A B : World → Prop} {w : World} {v : Value} {r : Result Next} (h : ∀ w, A w → B w) (q : Oper.quietUpon P A w v r) : Oper.quietUpon P B w v r := by
  cases r with
  | ok n w' =>
    cases n <;> simp only [Oper.quietUpon] at q ⊢
    case value u => exact q
    case skip => exact q
    case enter f args => exact ⟨q.1, q.2.mono fun _ _ ⟨h1, h2⟩ => ⟨h1, h _ h2⟩⟩
  | halt x w' => exact q

/-- The operations of a region in the order of the text. -/
def Ops (P : Program) (C : Cx) (N : Nat) (ops : Array Oper) (K : K3) (l : List Oper) (env : Env) (V : HV) (σ : Res) : Prop :=
  ∀ a w, Fr N env a → Mem C V σ w → wpList P ops (lift C N K (fun _ _ _ _ => False)) l a w

/-- The same where nothing is written and any order may come. -/
def Qops (P : Program) (C : Cx) (N : Nat) (ops : Array Oper) (V : HV) (σ : Res) (K : Env → Prop) (l : List Oper) (env : Env) : Prop :=
  ∀ a, Fr N env a → wpQuiet P ops (Mem C V σ) (fun a' => ∃ env', Fr N env' a' ∧ K env') l a

section
variable {P : Program} {C : Cx} {N : Nat} {K : K3} {Q : Ex → K3} {env : Env} {V : HV} {σ : Res} {ops : Array Oper} {rest : List Oper} {o : Oper} {v : Value}

theorem ops_nil (h : K env V σ) : Ops P C N ops K [] env V σ := fun _ _ hf hm => wpList_nil ⟨_, _, _, hf, hm, h⟩

theorem ops_q (hq : QV P C o env V σ v) (hw : wantedE o ops env = true) (h : Ops P C N ops K rest (updO N env o.dst v) V σ) : Ops P C N ops K (o :: rest) env V σ := fun a w hf hm => by
  refine wpList_step fun K' hK' => ?_
  rw [hf.yielded, if_pos (show Region.wanted o (yieldE ops env) = true from hw)]
  refine Oper.wp_of_quiet (C := Mem C V σ) (K := fun a' => a' = a.put o.dst v) hm (fun a' w' hm' e => ?_) ⟨v, fun w' hm' => ?_, rfl⟩
  · subst e; exact hK' _ _ (h _ _ (hf.put _ _) hm')
  · unfold Oper.quietAt; rw [hf.eval]; exact quietUpon_mono (fun _ h => h.1) (hq w' hm')

theorem ops_skip (hw : wantedE o ops env = false) (h : Ops P C N ops K rest (updO N env o.dst undef) V σ) : Ops P C N ops K (o :: rest) env V σ := fun a w hf hm => by
  refine wpList_step fun K' hK' => ?_
  rw [hf.yielded, if_neg (by unfold wantedE at hw; rw [hw]; exact Bool.false_ne_true)]
  exact hK' _ _ (h _ _ (hf.put _ _) hm)

theorem qops_nil {K : Env → Prop} (h : K env) : Qops P C N ops V σ K [] env := fun _ hf => wpQuiet_nil ⟨_, hf, h⟩

theorem qops_q {K : Env → Prop} (hq : QV P C o env V σ v) (hw : wantedE o ops env = true) (h : Qops P C N ops V σ K rest (updO N env o.dst v)) : Qops P C N ops V σ K (o :: rest) env := fun a hf => by
  refine wpQuiet_step fun K' hK' => ?_
  rw [hf.yielded, if_pos (show Region.wanted o (yieldE ops env) = true from hw)]
  refine ⟨v, fun w' hm' => ?_, hK' _ (h _ (hf.put _ _))⟩
  unfold Oper.quietAt; rw [hf.eval]; exact quietUpon_mono (fun _ h => h.1) (hq w' hm')

theorem qops_skip {K : Env → Prop} (hw : wantedE o ops env = false) (h : Qops P C N ops V σ K rest (updO N env o.dst undef)) : Qops P C N ops V σ K (o :: rest) env := fun a hf => by
  refine wpQuiet_step fun K' hK' => ?_
  rw [hf.yielded, if_neg (by unfold wantedE at hw; rw [hw]; exact Bool.false_ne_true)]
  exact hK' _ (h _ (hf.put _ _))

theorem wpQuiet_mono {CC : World → Prop} {A B : Act → Prop} (h : ∀ a, A a → B a) : ∀ (l : List Oper) (a : Act), wpQuiet P ops CC A l a → wpQuiet P ops CC B l a
  | [], a, hh => h a hh
  | o :: l, a, hh => by
    simp only [wpQuiet] at hh ⊢
    split
    · rename_i hw
      rw [if_pos hw] at hh
      exact Oper.quiet_mono (fun a => wpQuiet_mono h l a) hh
    · rename_i hw
      rw [if_neg hw] at hh
      exact wpQuiet_mono h l _ hh

theorem vc_region {id : Nat} {l : List Oper} (h : Ops P C N l.toArray K l env V σ) : VC P C N (.region id l.toArray false) K Q env V σ := fun a w hf hm => by
  refine wp_mono (wp_region_lit (h a w hf hm)) ?_
  rintro e a' w' ⟨env', V', σ', hf', hm', hh⟩
  refine ⟨env', V', σ', hf', hm', ?_⟩
  cases e <;> first | exact hh | exact hh.elim

theorem vc_region_any {id : Nat} {l : List Oper} (hm : P.follows .mixedOrders = true) (hB : Region.lexB .any l.toArray = true)
    (h : Qops P C N l.toArray V σ (fun e => K e V σ) l env) : VC P C N (.region id l.toArray true) K Q env V σ := fun a w hf hmm => by
  refine wp_region_quiet (C := Mem C V σ) hm hB (hmm.drawn _) ?_
  have h' := h a hf
  simp only at h' ⊢
  refine wpQuiet_mono ?_ _ _ h'
  rintro a' ⟨env', hf', hk⟩ w' hm'
  exact ⟨env', V, σ, hf', hm', hk⟩
end
end Go.Vc
