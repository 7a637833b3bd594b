/- Owned blocks: making, writing, giving away for good. Slices that are read. No program in sight. -/
import Derived.Test.YtgehdgeiikjohaaVcB
namespace Go.Vc
open Go.RowKit

/-- One owned block. -/
def Blk (b : Nat) (o : Obj) : Asrt := fun h => h = one b o
/-- One owned row of cells. -/
def Arr (T : TypeId) (b : Nat) (cs : List Value) : Asrt := Blk b (.cells cs.toArray T (0, 0))

theorem Sat.get : ∀ {σ : Res} {hs : List HV} {k : Nat} {A : Asrt}, Sat σ hs → σ[k]? = some A → ∃ h, hs[k]? = some h ∧ A h
  | A :: _, h :: _, 0, _, s, e => by cases e; exact ⟨h, rfl, s.1⟩
  | _ :: σ, _ :: hs, k + 1, A, s, e => Sat.get (σ := σ) (hs := hs) (k := k) s.2 (by simpa using e)
  | [], _, _, _, _, e => by simp at e
  | _ :: _, [], _, _, s, _ => s.elim

theorem Sat.set : ∀ {σ : Res} {hs : List HV} {k : Nat} {A : Asrt} {h : HV}, Sat σ hs → k < σ.length → A h → Sat (σ.set k A) (hs.set k h)
  | _ :: _, _ :: _, 0, _, _, s, _, a => ⟨a, s.2⟩
  | _ :: σ, _ :: hs, k + 1, _, _, s, hk, a => ⟨s.1, Sat.set (σ := σ) (hs := hs) s.2 (by simpa using hk) a⟩
  | [], _, _, _, _, _, hk, _ => by simp at hk
  | _ :: _, [], _, _, _, s, _, _ => s.elim

section
variable {P : Program} {C : Cx} {N : Nat} {K : K3} {Q : Ex → K3} {env : Env} {V : HV} {σ : Res} {ops : Array Oper} {rest : List Oper} {w : World} {b : Nat} {o : Obj} {k : Nat}

theorem Mem.blk (m : Mem C V σ w) (hk : σ[k]? = some (Blk b o)) : w.heap[b]? = some o ∧ V b = none := by
  obtain ⟨hs, h1, h2, h3⟩ := m.own
  obtain ⟨h, e, rfl⟩ := h1.get hk
  have hm : one b o ∈ hs := List.mem_of_getElem? e
  obtain ⟨q1, q2, _⟩ := h3 _ hm
  have hb : one b o b = some o := by simp [one]
  refine ⟨q1 b o hb, ?_⟩
  rcases q2 b with q | q
  · rw [hb] at q; cases q
  · exact q

/-- The owned block k turns from o to o'. -/
theorem Mem.setBlk (m : Mem C V σ w) (hk : σ[k]? = some (Blk b o)) (o' : Obj) (w' : World) (hw : w' = { w with heap := w.heap.setIfInBounds b o' }) : Mem C V (σ.set k (Blk b o')) w' := by
  subst hw
  obtain ⟨hb, hV⟩ := m.blk hk
  have hlt : b < w.heap.size := hv_lt (w := w) hb
  obtain ⟨hs, h1, h2, h3⟩ := m.own
  obtain ⟨h, e, rfl⟩ := h1.get hk
  have hkl : k < σ.length := (List.getElem?_eq_some_iff.1 hk).1
  have hkh : k < hs.length := (List.getElem?_eq_some_iff.1 e).1
  have hm : one b o ∈ hs := List.mem_of_getElem? e
  have oth : ∀ c, c ≠ b → (w.heap.setIfInBounds b o')[c]? = w.heap[c]? := fun c hc => by
    rw [Array.getElem?_setIfInBounds, if_neg (fun h => hc h.symm)]
  have hD : b < C.w0.heap.size → C.D b := fun hb' => (h3 _ hm).2.2 b hb' (by simp [one])
  have dis : ∀ i (hi : i < hs.length), i ≠ k → hs[i] b = none := fun i hi hik => by
    have hpw := List.pairwise_iff_getElem.1 h2
    have ek : hs[k] = one b o := by have := List.getElem?_eq_some_iff.1 e; exact this.2
    have hb1 : one b o b = some o := by simp [one]
    rcases Nat.lt_or_ge i k with hlt' | hge
    · rcases hpw i k hi hkh hlt' b with q | q
      · exact q
      · rw [ek, hb1] at q; cases q
    · rcases hpw k i hkh hi (by omega) b with q | q
      · rw [ek, hb1] at q; cases q
      · exact q
  refine ⟨m.os, m.tape, m.output, by simp [m.size], fun c hc hd => ?_, m.sub, fun c x hx => ?_, m.vold, hs.set k (one b o'), h1.set hkl rfl, ?_, ?_⟩
  · show (w.heap.setIfInBounds b o')[c]? = _
    rw [oth c (fun h => hd (h ▸ hD (h ▸ hc)))]; exact m.frame c hc hd
  · show (w.heap.setIfInBounds b o')[c]? = _
    rw [oth c (fun h => by rw [h, hV] at hx; cases hx)]; exact m.view c x hx
  · refine List.pairwise_iff_getElem.2 fun i j hi hj hij c => ?_
    have hi' : i < hs.length := by simpa using hi
    have hj' : j < hs.length := by simpa using hj
    have hpw := List.pairwise_iff_getElem.1 h2 i j hi' hj' hij c
    simp only [List.getElem_set]
    by_cases h1 : k = i
    · subst h1
      have hne : ¬ k = j := by omega
      simp only [if_true, hne, if_false]
      by_cases hc : c = b
      · subst hc; exact .inr (dis j hj' (by omega))
      · exact .inl (by simp [one, hc])
    · by_cases h2 : k = j
      · subst h2
        simp only [h1, if_true, if_false]
        by_cases hc : c = b
        · subst hc; exact .inl (dis i hi' (by omega))
        · exact .inr (by simp [one, hc])
      · simp only [h1, h2, if_false]; exact hpw
  · intro h hh
    obtain ⟨i, hi, rfl⟩ := List.getElem_of_mem hh
    have hi' : i < hs.length := by simpa using hi
    simp only [List.getElem_set]
    by_cases h1 : k = i
    · subst h1
      simp only [if_true]
      refine ⟨fun c x hx => ?_, fun c => ?_, fun c hc hn => ?_⟩
      · unfold one at hx
        split at hx
        · rename_i hcb; subst hcb; cases hx
          show (w.heap.setIfInBounds c o')[c]? = _
          rw [Array.getElem?_setIfInBounds, if_pos rfl, if_pos hlt]
        · cases hx
      · by_cases hc : c = b
        · subst hc; exact .inr hV
        · exact .inl (by simp [one, hc])
      · by_cases hcb : c = b
        · subst hcb; exact hD hc
        · exact absurd (by simp [one, hcb]) hn
    · simp only [h1, if_false]
      obtain ⟨q1, q2, q3⟩ := h3 _ (List.getElem_mem hi')
      refine ⟨fun c x hx => ?_, q2, q3⟩
      show (w.heap.setIfInBounds b o')[c]? = _
      rw [oth c (fun h => by subst h; rw [dis i hi' (fun h => h1 h.symm)] at hx; cases hx)]; exact q1 c x hx

/-- A new block. -/
theorem Mem.alloc (m : Mem C V σ w) (o : Obj) (w' : World) (hw : w' = { w with heap := w.heap.push o }) : Mem C V (σ ++ [Blk w.heap.size o]) w' := by
  have hE : Ext w w' := by
    subst hw
    exact ⟨rfl, rfl, rfl, by simp, fun c hc => by show (w.heap.push o)[c]? = _; rw [Array.getElem?_push, if_neg (by omega)]⟩
  obtain ⟨hs, h1, h2, h3⟩ := (m.ext hE).own
  obtain ⟨hs', h1', _, h3'⟩ := m.own
  have m' := m.ext hE
  have hnew : (hv w') w.heap.size = some o := by subst hw; show (w.heap.push o)[w.heap.size]? = _; simp
  -- the pieces are those of before
  refine ⟨m'.os, m'.tape, m'.output, m'.size, m'.frame, m'.sub, m'.view, m'.vold, ?_⟩
  obtain ⟨ks, k1, k2, k3⟩ := m.own
  refine ⟨ks ++ [one w.heap.size o], k1.append ⟨rfl, trivial⟩, ?_, ?_⟩
  · refine List.pairwise_append.2 ⟨k2, List.pairwise_singleton _ _, fun h1 i1 h2 i2 c => ?_⟩
    rw [List.mem_singleton] at i2; subst i2
    by_cases hc : c = w.heap.size
    · left
      cases e : h1 c with
      | none => rfl
      | some x => have := hv_lt ((k3 h1 i1).1 c x e); omega
    · exact .inr (by simp [one, hc])
  · intro h hh
    rcases List.mem_append.1 hh with hh | hh
    · exact ⟨(k3 h hh).1.trans hE.hv, (k3 h hh).2⟩
    · rw [List.mem_singleton] at hh; subst hh
      refine ⟨fun c x hx => ?_, fun c => ?_, fun c hc hn => ?_⟩
      · unfold one at hx
        split at hx
        · rename_i hcb; subst hcb; cases hx; exact hnew
        · cases hx
      · by_cases hc : c = w.heap.size
        · right
          cases e : V c with
          | none => rfl
          | some x => have := hv_lt (m.view c x e); omega
        · exact .inl (by simp [one, hc])
      · by_cases hcb : c = w.heap.size
        · have := m.size; omega
        · exact absurd (by simp [one, hcb]) hn

/-- An owned piece is given away for good: it may be read from now on, not written. -/
theorem Mem.freeze {A : Asrt} {σr : Res} (m : Mem C V σ w) (hp : σ.Perm (A :: σr)) : ∃ h, A h ∧ Disj V h ∧ Mem C (Go.Vc.plus V h) σr w := by
  obtain ⟨hs, h1, h2, h3⟩ := (m.perm hp).own
  match hs, h1 with
  | h :: hs, h1 =>
    obtain ⟨p1, p2⟩ := List.pairwise_cons.1 h2
    obtain ⟨q1, q2, q3⟩ := h3 h (List.mem_cons_self ..)
    refine ⟨h, h1.1, q2.symm, m.os, m.tape, m.output, m.size, m.frame, m.sub.trans (sub_plus_left _ _), sub_plus m.view q1, fun c hc hd => ?_, hs, h1.2, p2, fun x hx => ?_⟩
    · have : h c = none := by
        cases e : h c with
        | none => rfl
        | some y => exact absurd (q3 c hc (by rw [e]; simp)) hd
      unfold Go.Vc.plus
      rw [this, m.vold c hc hd]; cases C.V0 c <;> rfl
    · obtain ⟨r1, r2, r3⟩ := h3 x (List.mem_cons_of_mem _ hx)
      refine ⟨r1, fun c => ?_, r3⟩
      rcases r2 c with q | q
      · exact .inl q
      · rcases p1 x hx c with s | s
        · right; unfold Go.Vc.plus; rw [q]; exact s
        · exact .inl s

theorem vc_freeze {c : Code} {σr : Res} (hp : σ.Perm (Blk b o :: σr)) (h : ∀ V', Sub V V' → V' b = some o → VC P C N c K Q env V' σr) : VC P C N c K Q env V σ := fun a w hf hm => by
  have hn : V b = none := by
    obtain ⟨hs, h1, h2, h3⟩ := (hm.perm hp).own
    match hs, h1 with
    | x :: hs, h1 =>
      have hx : x = one b o := h1.1
      rcases (h3 x (List.mem_cons_self ..)).2.1 b with q | q
      · rw [hx] at q; simp [one] at q
      · exact q
  obtain ⟨x, hx, _, m'⟩ := hm.freeze hp
  have hx' : x = one b o := hx
  subst hx'
  exact h _ (sub_plus_left _ _) (by simp [Go.Vc.plus, hn, one]) a w hf m'
end

/-- What holds of the memory in every world of the kind. -/
def In (C : Cx) (V : HV) (σ : Res) (F : HV → Prop) : Prop := ∀ w, Mem C V σ w → F (hv w)

/-- v is a slice whose elements, of one cell each, are vals. -/
def Sl (H : HV) (v : Value) (vals : List Value) : Prop :=
  ∃ a cap, v = .slice a vals.length cap ∧ vals.length ≤ cap ∧ cap ≤ 9223372036854775807 ∧ (vals ≠ [] → ∃ b off cs T fz, a = some ⟨b, off, none⟩ ∧ H b = some (.cells cs T fz) ∧ ∀ i, i < vals.length → cs[off + i]? = vals[i]?)

theorem Sl.mono {H H' : HV} {v : Value} {vals : List Value} (h : Sl H v vals) (s : Sub H H') : Sl H' v vals := by
  obtain ⟨a, cap, h1, h2, h2', h3⟩ := h
  refine ⟨a, cap, h1, h2, h2', fun hn => ?_⟩
  obtain ⟨b, off, cs, T, fz, e1, e2, e3⟩ := h3 hn
  exact ⟨b, off, cs, T, fz, e1, s _ _ e2, e3⟩

theorem Sl.bound {H : HV} {v : Value} {vals : List Value} (h : Sl H v vals) : vals.length ≤ 9223372036854775807 := by
  obtain ⟨_, _, _, h1, h2, _⟩ := h; omega
theorem Sl.cells {H : HV} {v : Value} {vals : List Value} (h : Sl H v vals) : v.cells = [v].toArray := by
  obtain ⟨_, _, h, _⟩ := h; rw [h]; rfl
theorem Sl.one {H : HV} {v : Value} {vals : List Value} (h : Sl H v vals) : v.oneCell' = true := by
  obtain ⟨_, _, h, _⟩ := h; rw [h]; rfl

def Ints (k : IntKind) (H : HV) (v : Value) (xs : List Int) : Prop := Sl H v (xs.map (Value.int k))
theorem Ints.bound {k : IntKind} {H : HV} {v : Value} {xs : List Int} (h : Ints k H v xs) : xs.length ≤ 9223372036854775807 := by
  have := Sl.bound h; simpa using this
theorem Ints.mono {k : IntKind} {H H' : HV} {v : Value} {xs : List Int} (h : Ints k H v xs) (s : Sub H H') : Ints k H' v xs := Sl.mono h s

theorem inV {C : Cx} {V : HV} {σ : Res} {v : Value} {vals : List Value} (h : Sl V v vals) : In C V σ (fun H => Sl H v vals) := fun _ m => h.mono m.view
theorem inVi {C : Cx} {V : HV} {σ : Res} {k : IntKind} {v : Value} {xs : List Int} (h : Ints k V v xs) : In C V σ (fun H => Ints k H v xs) := fun _ m => Sl.mono h m.view

theorem inO {C : Cx} {V : HV} {σ : Res} {k : Nat} {T : TypeId} {b n cap : Nat} {cs : List Value} (hk : σ[k]? = some (Arr T b cs)) (hn : n = cs.length) (hc : n ≤ cap) (hm : cap ≤ 9223372036854775807) :
    In C V σ (fun H => Sl H (.slice (some ⟨b, 0, none⟩) n cap) cs) := fun w m =>
  ⟨some ⟨b, 0, none⟩, cap, by rw [hn], by omega, hm, fun _ => ⟨b, 0, cs.toArray, T, (0, 0), rfl, (m.blk hk).1, fun i _ => by simp⟩⟩

/- elements by an integer -/
abbrev gi (xs : List Int) (i : Int) : Int := xs.getD i.toNat 0
abbrev gv (vs : List Value) (i : Int) : Value := vs.getD i.toNat undef

/-- The address of the element i of a slice. -/
def eptr (v : Value) (i : Int) (s : Nat) : Value :=
  match v with
  | .slice (some a) _ _ => .pointer (some (a.add (i.toNat * s)))
  | _ => undef

def SizeIs (P : Program) (E : TypeId) (s : Nat) : Prop := (P.info? E).map (·.size) = some s
def Plain (P : Program) (E : TypeId) : Prop := ∃ d, P.underlying E = some d ∧ (∀ f, d ≠ .struct f) ∧ ∀ n e, d ≠ .array n e

theorem run_sizeOf {P : Program} {E : TypeId} {s : Nat} (h : SizeIs P E s) (w : World) : (sizeOf E).run P w = .ok s w := by
  unfold SizeIs at h
  cases e : P.info? E with
  | none => rw [e] at h; cases h
  | some i => rw [e] at h; cases h; simp [sizeOf, typeInfo, e]

theorem run_plain {P : Program} {E : TypeId} (h : Plain P E) (w : World) : (isAgg E).run P w = .ok false w := by
  obtain ⟨d, h1, h2, h3⟩ := h
  simp only [isAgg, underlying]
  cases d <;> simp_all

end Go.Vc
