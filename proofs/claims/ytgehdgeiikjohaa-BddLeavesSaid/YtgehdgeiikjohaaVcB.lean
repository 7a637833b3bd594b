/- Contracts of functions, and calls, in the small logic of Vc. No program in sight. -/
import Derived.Test.YtgehdgeiikjohaaVc
namespace Go.Vc
open Go.RowKit

theorem Sat.append : ∀ {σ τ : Res} {hs ks : List HV}, Sat σ hs → Sat τ ks → Sat (σ ++ τ) (hs ++ ks)
  | [], _, [], _, _, h2 => h2
  | _ :: _, _, _ :: _, _, h1, h2 => ⟨h1.1, h1.2.append h2⟩
  | [], _, _ :: _, _, h1, _ => h1.elim
  | _ :: _, _, [], _, h1, _ => h1.elim

theorem Sat.split : ∀ {σ τ : Res} {hs : List HV}, Sat (σ ++ τ) hs → ∃ a b, hs = a ++ b ∧ Sat σ a ∧ Sat τ b
  | [], _, hs, h => ⟨[], hs, rfl, trivial, h⟩
  | _ :: σ, τ, x :: hs, h => by
    obtain ⟨a, b, e, h1, h2⟩ := Sat.split (σ := σ) (τ := τ) h.2
    exact ⟨x :: a, b, by rw [e]; rfl, ⟨h.1, h1⟩, h2⟩
  | _ :: _, _, [], h => h.elim

theorem Sat.perm {σ τ : Res} (p : σ.Perm τ) : ∀ {hs : List HV}, Sat σ hs → ∃ ks, hs.Perm ks ∧ Sat τ ks := by
  induction p with
  | nil => intro hs h; exact ⟨hs, .refl _, h⟩
  | cons A _ ih =>
    intro hs h
    match hs, h with
    | x :: hs, h =>
      obtain ⟨ks, p, h2⟩ := ih h.2
      exact ⟨x :: ks, p.cons x, h.1, h2⟩
  | swap A B l =>
    intro hs h
    match hs, h with
    | x :: y :: hs, h => exact ⟨y :: x :: hs, .swap _ _ _, h.2.1, h.1, h.2.2⟩
  | trans _ _ ih1 ih2 =>
    intro hs h
    obtain ⟨k1, p1, h1⟩ := ih1 h
    obtain ⟨k2, p2, h2⟩ := ih2 h1
    exact ⟨k2, p1.trans p2, h2⟩

theorem pairwise_perm {hs ks : List HV} (p : hs.Perm ks) (h : hs.Pairwise Disj) : ks.Pairwise Disj :=
  (p.pairwise_iff (fun d => d.symm)).1 h

theorem Mem.perm {C : Cx} {V : HV} {σ τ : Res} {w : World} (m : Mem C V σ w) (p : σ.Perm τ) : Mem C V τ w := by
  obtain ⟨hs, h1, h2, h3⟩ := m.own
  obtain ⟨ks, q, h4⟩ := h1.perm p
  exact ⟨m.os, m.tape, m.output, m.size, m.frame, m.sub, m.view, m.vold, ks, h4, pairwise_perm q h2, fun h hh => h3 h (q.mem_iff.2 hh)⟩

/-- A function that has a body. -/
def FnOk (P : Program) (f : FuncId) : Prop := ∃ fn, P.funcs[f]? = some fn ∧ (fn.name == "runtime.NumGoroutine") = false ∧ fn.body.isNone = false

structure FnC (P : Program) (f : FuncId) (args : List Value) (V0 : HV) (σ0 : Res) (Φ : Value → HV → Res → Prop) : Prop where
  ok : FnOk P f
  run : ∀ w0 hs0, Sat σ0 hs0 → hs0.Pairwise Disj → Sub V0 (hv w0) → (∀ h ∈ hs0, Sub h (hv w0) ∧ Disj h V0) →
    Calls P f args.toArray w0 fun e w' => ∃ v V' σ', e = .returned v ∧ Φ v V' σ' ∧ Mem ⟨w0, V0, dom hs0⟩ V' σ' w'

theorem FnC.mono {P : Program} {f : FuncId} {args : List Value} {V0 : HV} {σ0 : Res} {Φ Ψ : Value → HV → Res → Prop} (h : FnC P f args V0 σ0 Φ)
    (hm : ∀ v V σ, Sub V0 V → Φ v V σ → Ψ v V σ) : FnC P f args V0 σ0 Ψ :=
  ⟨h.ok, fun w0 hs0 h1 h2 h3 h4 => (h.run w0 hs0 h1 h2 h3 h4).mono fun _ _ ⟨v, V', σ', h5, h6, h7⟩ => ⟨v, V', σ', h5, hm _ _ _ h7.sub h6, h7⟩⟩

theorem FnC.boolI {P : Program} {f : FuncId} {args : List Value} {V0 : HV} {σ0 : Res} {q : Prop} {i1 i2 : Decidable q} (h : FnC P f args V0 σ0 (fun v _ _ => v = .bool (@decide q i1))) :
    FnC P f args V0 σ0 (fun v _ _ => v = .bool (@decide q i2)) := by
  have : i1 = i2 := Subsingleton.elim _ _
  rw [← this]; exact h

/- THE END OF A BODY -/
def resultsE (rs : Array ResultVar) (env : Env) : Sem Value := do
  let vs ← rs.mapM fun
    | .tmp t => pure (env t)
    | .cell a t => do loadVar t (← asAddr (env a))
  pure (if h : vs.size = 1 then vs[0] else .tuple vs)

theorem Fr.results {N : Nat} {e : Env} {a : Act} (h : Fr N e a) (fn : Func) : Go.results fn a.tmps = resultsE fn.results e := by
  unfold Go.results resultsE
  simp only [h.get]
  rfl

def RetOk (P : Program) (C : Cx) (rs : Array ResultVar) (env : Env) (V : HV) (σ : Res) (v : Value) : Prop := ∀ w, Mem C V σ w → (resultsE rs env).run P w = .ok v w

def RetK (P : Program) (C : Cx) (rs : Array ResultVar) (Φ : Value → HV → Res → Prop) : K3 := fun env V σ => ∃ v, RetOk P C rs env V σ v ∧ Φ v V σ
def RetQ (P : Program) (C : Cx) (rs : Array ResultVar) (Φ : Value → HV → Res → Prop) : Ex → K3
  | .ret => RetK P C rs Φ
  | _ => fun _ _ _ => False

section
variable {P : Program} {C : Cx} {env : Env} {V : HV} {σ : Res} {Φ : Value → HV → Res → Prop}
theorem ret0 (h : Φ (.tuple #[]) V σ) : RetK P C #[] Φ env V σ := ⟨_, fun w _ => by simp [resultsE], h⟩
theorem ret1 {t : Nat} {v : Value} (e : env t = v) (h : Φ v V σ) : RetK P C #[.tmp t] Φ env V σ := ⟨_, fun w _ => by simp [resultsE, e], h⟩
theorem ret2 {t u : Nat} {v1 v2 : Value} (e1 : env t = v1) (e2 : env u = v2) (h : Φ (.tuple #[v1, v2]) V σ) : RetK P C #[.tmp t, .tmp u] Φ env V σ :=
  ⟨_, fun w _ => by simp [resultsE, e1, e2], h⟩
theorem ret3 {t u x : Nat} {v1 v2 v3 : Value} (e1 : env t = v1) (e2 : env u = v2) (e3 : env x = v3) (h : Φ (.tuple #[v1, v2, v3]) V σ) : RetK P C #[.tmp t, .tmp u, .tmp x] Φ env V σ :=
  ⟨_, fun w _ => by simp [resultsE, e1, e2, e3], h⟩
theorem ret4 {t u x y : Nat} {v1 v2 v3 v4 : Value} (e1 : env t = v1) (e2 : env u = v2) (e3 : env x = v3) (e4 : env y = v4) (h : Φ (.tuple #[v1, v2, v3, v4]) V σ) :
    RetK P C #[.tmp t, .tmp u, .tmp x, .tmp y] Φ env V σ := ⟨_, fun w _ => by simp [resultsE, e1, e2, e3, e4], h⟩
end

section
variable {P : Program} {C : Cx} {env : Env} {V : HV} {σ : Res} {Φ : Value → HV → Res → Prop}
theorem rq0 (h : Φ (.tuple #[]) V σ) : RetQ P C #[] Φ .ret env V σ := ret0 h
theorem rq1 {t : Nat} (v : Value) (e : env t = v) (h : Φ v V σ) : RetQ P C #[.tmp t] Φ .ret env V σ := ret1 e h
theorem rq2 {t u : Nat} (v1 v2 : Value) (e1 : env t = v1) (e2 : env u = v2) (h : Φ (.tuple #[v1, v2]) V σ) : RetQ P C #[.tmp t, .tmp u] Φ .ret env V σ := ret2 e1 e2 h
theorem rq3 {t u x : Nat} (v1 v2 v3 : Value) (e1 : env t = v1) (e2 : env u = v2) (e3 : env x = v3) (h : Φ (.tuple #[v1, v2, v3]) V σ) : RetQ P C #[.tmp t, .tmp u, .tmp x] Φ .ret env V σ := ret3 e1 e2 e3 h
theorem rq4 {t u x y : Nat} (v1 v2 v3 v4 : Value) (e1 : env t = v1) (e2 : env u = v2) (e3 : env x = v3) (e4 : env y = v4) (h : Φ (.tuple #[v1, v2, v3, v4]) V σ) :
    RetQ P C #[.tmp t, .tmp u, .tmp x, .tmp y] Φ .ret env V σ := ret4 e1 e2 e3 e4 h
end

def look : List Value → Nat → Value
  | [], _ => undef
  | v :: _, 0 => v
  | _ :: r, n + 1 => look r n

theorem look_getD : ∀ (l : List Value) (n k : Nat), (l ++ List.replicate k undef).toArray.getD n undef = look l n
  | [], n, k => by
    simp only [List.nil_append, look, Array.getD]
    split
    · simp
    · rfl
  | v :: l, 0, k => by simp [look, Array.getD]
  | v :: l, n + 1, k => by
    have := look_getD l n k
    simp only [Array.getD, List.size_toArray, List.cons_append, List.length_cons, look] at this ⊢
    rw [← this]
    by_cases h : n < (l ++ List.replicate k undef).length
    · rw [dif_pos h, dif_pos (by omega)]; simp
    · rw [dif_neg h, dif_neg (by omega)]

theorem entry_fr {N : Nat} {args : List Value} (hl : args.length ≤ N) : Fr N (look args) { tmps := args.toArray ++ Array.replicate (N - args.toArray.size) undef, defers := [] } := by
  refine ⟨rfl, by simp; omega, fun t => ?_⟩
  have e : args.toArray ++ Array.replicate (N - args.toArray.size) undef = (args ++ List.replicate (N - args.length) undef).toArray := by
    apply Array.ext'; simp
  show (args.toArray ++ Array.replicate (N - args.toArray.size) undef).getD t undef = _
  rw [e]; exact look_getD _ _ _

/-- A function's contract out of its body's. -/
theorem fn_intro {P : Program} {f : FuncId} {fn : Func} {c : Code} {N : Nat} {args : List Value} {V0 : HV} {σ0 : Res} {Φ : Value → HV → Res → Prop} {rs : Array ResultVar}
    (hf : P.funcs[f]? = some fn) (hname : (fn.name == "runtime.NumGoroutine") = false) (hb : fn.body = some c) (hN : fn.ntmps = N) (hr : fn.results = rs) (hl : args.length ≤ N)
    (h : ∀ w0 D, VC P ⟨w0, V0, D⟩ N c (RetK P ⟨w0, V0, D⟩ rs Φ) (RetQ P ⟨w0, V0, D⟩ rs Φ) (look args) V0 σ0) : FnC P f args V0 σ0 Φ := by
  refine ⟨⟨fn, hf, hname, by rw [hb]; rfl⟩, fun w0 hs0 h1 h2 h3 h4 => ?_⟩
  refine calls_of_wp hf hb ?_
  have hm : Mem ⟨w0, V0, dom hs0⟩ V0 σ0 w0 := ⟨rfl, rfl, rfl, Nat.le_refl _, fun _ _ _ => rfl, .refl _, h3, fun _ _ _ => rfl, hs0, h1, h2,
    fun h hh => ⟨(h4 h hh).1, (h4 h hh).2, fun b _ hn => ⟨h, hh, hn⟩⟩⟩
  subst hN; subst hr
  refine wp_mono (h w0 (dom hs0) _ w0 (entry_fr hl) hm) ?_
  rintro e a' w' ⟨env', V', σ', hf', hm', hh⟩
  cases e with
  | normal =>
    obtain ⟨v, h5, h6⟩ := hh
    exact ⟨hf'.defers, v, by rw [hf'.results]; exact h5 _ hm', v, V', σ', rfl, h6, hm'⟩
  | ret =>
    obtain ⟨v, h5, h6⟩ := hh
    exact ⟨hf'.defers, v, by rw [hf'.results]; exact h5 _ hm', v, V', σ', rfl, h6, hm'⟩
  | exit id => exact hh.elim
  | goto l => exact hh.elim
  | panic ch => exact hh.elim
  | outgrown => exact hh.elim

/- CALLS -/
theorem Mem.ext_of_none {w w' : World} {V V' : HV} {σ' : Res} (m : Mem ⟨w, V, dom []⟩ V' σ' w') : Ext w w' :=
  ⟨m.os, m.tape, m.output, m.size, fun b hb => m.frame b hb (fun ⟨_, hh, _⟩ => by cases hh)⟩

theorem run_call {P : Program} {ρ : Operand → Value} {dst : Option Nat} {x : Operand} {l : List Operand} {at_ : Array TypeId} {t : TypeId} {pos : String} {af : Array Edge} {g : Option (Nat × Bool)}
    {f : FuncId} {cap : Array Value} (hok : FnOk P f) (hx : ρ x = .func (.func f) #[] cap) (w : World) :
    (execOp ρ ⟨dst, .call { callee := .value x, args := l.toArray, argTypes := at_ }, t, pos, af, g⟩).run P w = .ok (.enter f (l.map ρ ++ cap.toList).toArray) w := by
  obtain ⟨fn, h1, h2, h3⟩ := hok
  have e : (l.map ρ ++ cap.toList).toArray = l.toArray.map ρ ++ cap := by apply Array.ext'; simp
  rw [e]
  have h2' : fn.name ≠ "runtime.NumGoroutine" := fun h => by rw [h] at h2; exact absurd h2 (by simp)
  have h3' : fn.body ≠ none := fun h => by rw [h] at h3; cases h3
  simp [execOp, resolve, hx, Deferred.ofValue, invoke, callFunc, h1, h2', h3']

section
variable {P : Program} {C : Cx} {N : Nat} {K : K3} {env : Env} {V : HV} {σ : Res} {ops : Array Oper} {rest : List Oper}
variable {dst : Option Nat} {x : Operand} {l : List Operand} {at_ : Array TypeId} {t : TypeId} {pos : String} {af : Array Edge} {g : Option (Nat × Bool)} {f : FuncId} {cap : Array Value} {args : List Value}

/-- A call that only computes a value. -/
theorem qv_call {v : Value} (h : FnC P f args V [] (fun v' _ _ => v' = v)) (hx : ev env x = .func (.func f) #[] cap) (ha : l.map (ev env) ++ cap.toList = args) :
    QV P C ⟨dst, .call { callee := .value x, args := l.toArray, argTypes := at_ }, t, pos, af, g⟩ env V σ v := fun w hm => by
  rw [run_call h.ok hx w, ha]
  refine ⟨rfl, (h.run w [] trivial .nil hm.view (fun _ hh => by cases hh)).mono ?_⟩
  rintro e w' ⟨v', V', σ', rfl, hv, hm'⟩
  exact ⟨by rw [hv], hm.ext hm'.ext_of_none, hm'.ext_of_none⟩

theorem Mem.call {w w' : World} {σa σr σ' : Res} {hsa hsr : List HV} {V' : HV} (m : Mem C V (σa ++ σr) w) (_ha : Sat σa hsa) (hr : Sat σr hsr)
    (hp : (hsa ++ hsr).Pairwise Disj) (hh : ∀ h ∈ hsa ++ hsr, Sub h (hv w) ∧ Disj h V ∧ ∀ b, b < C.w0.heap.size → h b ≠ none → C.D b)
    (m' : Mem ⟨w, V, dom hsa⟩ V' σ' w') : Mem C V' (σ' ++ σr) w' := by
  obtain ⟨p1, p2, p3⟩ := List.pairwise_append.1 hp
  have old : ∀ b, b < C.w0.heap.size → ¬ C.D b → ¬ dom hsa b := fun b hb hd ⟨h, h1, h2⟩ => hd ((hh h (List.mem_append_left _ h1)).2.2 b hb h2)
  obtain ⟨hs', s1, s2, s3⟩ := m'.own
  refine ⟨m'.os.trans m.os, m'.tape.trans m.tape, m'.output.trans m.output, Nat.le_trans m.size m'.size, fun b hb hd => ?_, m.sub.trans m'.sub, m'.view, fun b hb hd => ?_, hs' ++ hsr, s1.append hr, ?_, ?_⟩
  · have := m'.frame b (Nat.lt_of_lt_of_le hb m.size) (old b hb hd)
    rw [this]; exact m.frame b hb hd
  · have := m'.vold b (Nat.lt_of_lt_of_le hb m.size) (old b hb hd)
    rw [this]; exact m.vold b hb hd
  · refine List.pairwise_append.2 ⟨s2, p2, fun h1 i1 h2 i2 b => ?_⟩
    cases e2 : h2 b with
    | none => exact .inr rfl
    | some o =>
      left
      have hb : b < w.heap.size := hv_lt ((hh h2 (List.mem_append_right _ i2)).1 b o e2)
      cases e1 : h1 b with
      | none => rfl
      | some o1 =>
        obtain ⟨h3, i3, e3⟩ := (s3 h1 i1).2.2 b hb (by rw [e1]; simp)
        rcases p3 h3 i3 h2 i2 b with q | q
        · exact absurd q e3
        · rw [e2] at q; cases q
  · intro h hi
    rcases List.mem_append.1 hi with hi | hi
    · refine ⟨(s3 h hi).1, (s3 h hi).2.1, fun b hb hn => ?_⟩
      obtain ⟨h3, i3, e3⟩ := (s3 h hi).2.2 b (Nat.lt_of_lt_of_le hb m.size) hn
      exact (hh h3 (List.mem_append_left _ i3)).2.2 b hb e3
    · obtain ⟨q1, q2, q3⟩ := hh h (List.mem_append_right _ hi)
      have nd : ∀ b o, h b = some o → b < w.heap.size ∧ ¬ dom hsa b := fun b o hb => ⟨hv_lt (q1 b o hb), fun ⟨h3, i3, e3⟩ => by
        rcases p3 h3 i3 h hi b with q | q
        · exact e3 q
        · rw [hb] at q; cases q⟩
      refine ⟨fun b o hb => ?_, fun b => ?_, q3⟩
      · have := m'.frame b (nd b o hb).1 (nd b o hb).2
        show w'.heap[b]? = _
        rw [this]; exact q1 b o hb
      · cases e : h b with
        | none => exact .inl rfl
        | some o =>
          right
          have := m'.vold b (nd b o e).1 (nd b o e).2
          rw [this]
          rcases q2 b with q | q
          · rw [e] at q; cases q
          · exact q

/-- Any call: σa is handed over, σr stays. -/
theorem ops_call {σa σr : Res} {Φ : Value → HV → Res → Prop} (h : FnC P f args V σa Φ) (hx : ev env x = .func (.func f) #[] cap) (ha : l.map (ev env) ++ cap.toList = args) (hp : σ.Perm (σa ++ σr))
    (k : ∀ v V' σ', Sub V V' → Φ v V' σ' → Ops P C N ops K rest (updO N env dst v) V' (σ' ++ σr)) :
    Ops P C N ops K (⟨dst, .call { callee := .value x, args := l.toArray, argTypes := at_ }, t, pos, af, none⟩ :: rest) env V σ := fun a w hf hm => by
  refine wpList_plain rfl fun K' hK' => ?_
  unfold Oper.wp
  rw [hf.eval, run_call h.ok hx w, ha, Oper.upon_enter]
  have hm2 := hm.perm hp
  obtain ⟨hs, h1, h2, h3⟩ := hm2.own
  obtain ⟨hsa, hsr, rfl, h4, h5⟩ := h1.split
  refine (h.run w hsa h4 (List.pairwise_append.1 h2).1 hm2.view (fun h hh => ⟨(h3 h (List.mem_append_left _ hh)).1, (h3 h (List.mem_append_left _ hh)).2.1⟩)).mono ?_
  rintro e w' ⟨v, V', σ', rfl, hΦ, hm'⟩
  exact hK' _ _ (k v V' σ' hm'.sub hΦ _ _ (hf.put _ _) (hm2.call h4 h5 h2 h3 hm'))
end
end Go.Vc
