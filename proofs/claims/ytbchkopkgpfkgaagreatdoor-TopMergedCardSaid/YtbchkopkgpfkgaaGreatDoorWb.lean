/- Wb. -/
import Derived.Test.YtbchkopkgpfkgaaGreatDoorWa
import Derived.Laws.CopyRow
import Derived.ChangeKeysEq
import Derived.MapKept
namespace Go.Vc
open Go Go.RowKit
section
variable {P : Program} {C : Cx} {env : Env} {V : HV} {σ : Res} {dst : Option Nat} {x y : Operand} {t T E : TypeId} {pos : String} {af : Array Edge} {g : Option (Nat × Bool)}
/-- The address of an element of an array. -/
theorem qv_iaa {n s b off r : Nat} {i : Int} {kk : IntKind} (hu : P.underlying T = some (.array n E)) (hS : SizeIs P E s) (hx : ev env x = .pointer (some ⟨b, off, none⟩)) (hy : ev env y = .int kk i) (h0 : 0 ≤ i) (h1 : i < n) (hr : off + i.toNat * s = r) :
    QV P C ⟨dst, .indexAddr T x y, t, pos, af, g⟩ env V σ (.pointer (some ⟨b, r, none⟩)) := qv_run fun w _ => by
  have e : (⟨b, off, none⟩ : Addr).add (i.toNat * s) = ⟨b, r, none⟩ := by
    subst hr
    unfold Addr.add
    by_cases h : i.toNat * s = 0
    · simp [h]
    · simp [h]
  simp only [execOp, hx, hy, Instr.indexAt, asIntOf]
  simp [run_underlying hu, Instr.sureAddr, run_sizeOf hS, h0, h1, e]
end
end Go.Vc

namespace Go.Vc
open Go
section
variable {P : Program} {C : Cx} {N : Nat} {K : K3} {Q : Ex → K3} {env : Env} {V : HV} {σ σq : Res} {ops : Array Oper} {listed : Array Bool} {f i j k : Nat}
variable {d : Nat} {t : TypeId} {pos : String} {af : Array Edge} {g : Option (Nat × Bool)} {v : Value} {op : Op} {o : Oper}

/-- The walk of a region in every order from here on. -/
def EOrds (P : Program) (C : Cx) (N : Nat) (ops : Array Oper) (K : K3) (f : Nat) (listed : Array Bool) (env : Env) (V : HV) (σ σq : Res) : Prop :=
  ∀ a w, Fr N env a → Mem C V σ w → (∃ τ, σ.Perm (σq ++ τ)) → wpE P .any ops (lift C N K (fun _ _ _ _ => False)) f (Mem C V σq) listed a w
def quietB (ops : Array Oper) (listed : Array Bool) (i : Nat) : Bool := Region.noSelect ops && (Region.ready .any ops listed).contains i && Region.free .any ops listed i
theorem ee (hB : quietB ops listed i = true) (ho : ops[i]? = some ⟨some d, op, t, pos, af, g⟩) (hq : QV P C ⟨some d, op, t, pos, af, g⟩ env V σq v) (hw : wantedE ⟨some d, op, t, pos, af, g⟩ ops env = true)
    (h : EOrds P C N ops K f (listed.setIfInBounds i true) (upd N env d v) V σ σq) : EOrds P C N ops K (f + 1) listed env V σ σq := fun a w hf hm hp => by
  simp only [quietB, Bool.and_eq_true] at hB
  obtain ⟨τ, hτ⟩ := hp
  exact E_first ho (Region.noSelect_spec hB.1.1) (fun c a w h => by obtain ⟨_, _, _, _, _, h⟩ := h; exact h.elim) f _ listed a w (shut_mem _ _ _) (hm.weaken (Sub.refl _) hm.sub hm.vold hτ) (Region.free_spec ho hB.2) (by simpa using hB.1.2)
    (.inl ⟨by rw [hf.yielded]; exact hw, fun w' c => by rw [hf.eval]; exact quietUpon_mono (fun _ h => h.2) (hq w' c)⟩) (h _ w (hf.put (some d) v) hm ⟨τ, hτ⟩)
theorem eq_ (hB : quietB ops listed i = true) (ho : ops[i]? = some ⟨some d, op, t, pos, af, none⟩) (hq : QV P C ⟨some d, op, t, pos, af, none⟩ env V σq v)
    (h : EOrds P C N ops K f (listed.setIfInBounds i true) (upd N env d v) V σ σq) : EOrds P C N ops K (f + 1) listed env V σ σq := ee hB ho hq (wantedE_none rfl) h
/-- An operation that is no mere reading comes next. -/
def ELoud (P : Program) (C : Cx) (N : Nat) (ops : Array Oper) (K : K3) (f : Nat) (listed : Array Bool) (env : Env) (V : HV) (σ σq : Res) (i : Nat) : Prop :=
  ∃ o, ops[i]? = some o ∧ Ops P C N ops (fun e' V' σ' => ∃ σq' τ', σ'.Perm (σq' ++ τ') ∧ ((Sub V V' ∧ ∃ ρ, σq'.Perm (σq ++ ρ)) ∨ loneB .any ops i = true) ∧ EOrds P C N ops K f (listed.setIfInBounds i true) e' V' σ' σq') [o] env V σ
theorem el {rs : List Nat} (hr : decide (Region.ready .any ops listed = rs) = true) (hne : rs.isEmpty = false) (h : ∀ i ∈ rs, ELoud P C N ops K f listed env V σ σq i) : EOrds P C N ops K (f + 1) listed env V σ σq := fun a w hf hm hp w' e' => by
  have hr := of_decide_eq_true hr
  refine ⟨fun h0 => absurd (hr.symm.trans h0) (fun e => by rw [e] at hne; exact Bool.noConfusion hne), fun i hi => ?_⟩
  rw [hr] at hi
  obtain ⟨o, ho, h⟩ := h i hi
  have hm' := hm.ext e'
  have hl := h a w' hf hm'
  have fin : ∀ a'' w'', lift C N (fun e' V' σ' => ∃ σq' τ', σ'.Perm (σq' ++ τ') ∧ ((Sub V V' ∧ ∃ ρ, σq'.Perm (σq ++ ρ)) ∨ loneB .any ops i = true) ∧ EOrds P C N ops K f (listed.setIfInBounds i true) e' V' σ' σq') (fun _ _ _ _ => False) .normal a'' w'' →
      ∃ CQ' : World → Prop, Shut CQ' ∧ ((∀ w, CQ' w → Mem C V σq w) ∨ loneB .any ops i = true) ∧ CQ' w'' ∧ wpE P .any ops (lift C N K (fun _ _ _ _ => False)) f CQ' (listed.setIfInBounds i true) a'' w'' := by
    rintro a'' w'' ⟨env', V', σ', hf', hm2, σq', τ', h2, h3, h4⟩
    exact ⟨Mem C V' σq', shut_mem _ _ _, h3.imp (fun ⟨h1, ρ, h3⟩ w c => c.weaken h1 hm.sub hm.vold h3) id, hm2.weaken (Sub.refl _) hm2.sub hm2.vold h2, h4 _ _ hf' hm2 ⟨τ', h2⟩⟩
  unfold wpOp
  simp only [ho]
  simp only [wpList] at hl
  split
  · rename_i hw
    rw [if_pos hw] at hl
    rcases hl with hl | ⟨_, hl⟩
    · exact .inl (Oper.wp_monoQ fin (fun c a w ⟨_, _, _, _, _, h⟩ => h.elim) (fun h => absurd h no_out) hl)
    · exact absurd hl no_out
  · rename_i hw
    rw [if_neg hw] at hl
    exact fin _ _ hl
theorem el1 (hr : decide (Region.ready .any ops listed = [i]) = true) (h : ELoud P C N ops K f listed env V σ σq i) : EOrds P C N ops K (f + 1) listed env V σ σq :=
  el hr rfl fun x hx => by simp only [List.mem_singleton] at hx; exact hx ▸ h
theorem el2 (hr : decide (Region.ready .any ops listed = [i, j]) = true) (h : ELoud P C N ops K f listed env V σ σq i) (h2 : ELoud P C N ops K f listed env V σ σq j) : EOrds P C N ops K (f + 1) listed env V σ σq :=
  el hr rfl fun x hx => by
    simp only [List.mem_cons, List.not_mem_nil, or_false] at hx
    rcases hx with rfl | rfl <;> assumption
theorem enil {σ' : Res} (hr : (Region.ready .any ops listed).isEmpty = true) (hp : σ.Perm σ') (h : K env V σ') : EOrds P C N ops K 0 listed env V σ σq := fun a w hf hm _ w' e' =>
  ⟨by simpa using hr, ⟨env, V, σ', hf, (hm.ext e').perm hp, h⟩⟩
theorem vc_region_E {id n : Nat} {l : List Oper} {τ : Res} (σq : Res) (hm : P.follows .mixedOrders = true) (hp : σ.Perm (σq ++ τ)) (hn : l.length = n)
    (h : EOrds P C N l.toArray K n (Array.replicate n false) env V σ σq) : VC P C N (.region id l.toArray true) K Q env V σ := fun a w hf hmm => by
  have hmd := hmm.drawn (w.drawn + 1)
  have h1 := h a _ hf hmd ⟨τ, hp⟩
  refine wp_mono (wp_region_any (Q := lift C N K (fun _ _ _ _ => False)) hm ?_) ?_
  · have h2 := any_of_E _ _ _ _ _ h1
    have e : l.toArray.size = n := by simpa using hn
    rw [e]; exact h2
  · rintro e a'' w'' ⟨env'', V', σ', q1, q2, hh⟩
    refine ⟨env'', V', σ', q1, q2, ?_⟩
    cases e <;> first | exact hh | exact hh.elim
end
end Go.Vc

namespace Go.Vc
open Go Go.RowKit
section
variable {P : Program} {C : Cx} {env : Env} {V : HV} {σ : Res} {dst : Option Nat} {x y : Operand} {t T T' E : TypeId} {pos : String} {af : Array Edge} {g : Option (Nat × Bool)} {n c n2 c2 : Nat}
theorem run_eq_nil {a : Option Addr} {w : World} (hT : P.underlying T = some (.slice E)) : (Op.equal T (.slice a n c) (.slice none n2 c2)).run P w = .ok a.isNone w := by
  show (Op.equalIn (9999 + 1) T (.slice a n c) (.slice none n2 c2)).run P w = _
  generalize 9999 = d
  cases a <;> simp [Op.equalIn, run_underlying hT]
theorem qv_eqnil {a : Option Addr} (hT : P.underlying T = some (.slice E)) (hx : ev env x = .slice a n c) (hy : ev env y = .slice none n2 c2) : QV P C ⟨dst, .binOp .eql T x y T', t, pos, af, g⟩ env V σ (.bool a.isNone) := qv_run fun w _ => by
  simp [execOp, hx, hy, eqGuard, binOp, run_eq_nil hT]
end
theorem Sl.cases {V : HV} {v : Value} {vals : List Value} (h : Sl V v vals) : (∃ cap, v = .slice none 0 cap ∧ vals = []) ∨ (∃ ad cap, v = .slice (some ad) vals.length cap ∧ ∀ w, Sub V (hv w) → ∀ (j : Nat) (u : Value), vals[j]? = some u → w.cell? (ad.add j) = some u) := by
  obtain ⟨a, cap, rfl, h1, h2, h3⟩ := h
  cases a with
  | none =>
    left
    have : vals = [] := Decidable.not_not.1 fun hn => by obtain ⟨b, off, cs, T, fz, e, _⟩ := h3 hn; cases e
    subst this
    exact ⟨cap, rfl, rfl⟩
  | some ad =>
    right
    refine ⟨ad, cap, rfl, fun w hs j u hu => ?_⟩
    have hlt : j < vals.length := (List.getElem?_eq_some_iff.1 hu).1
    have hn : vals ≠ [] := fun e => by rw [e] at hlt; cases hlt
    obtain ⟨b, off, cs, T, fz, e, hb, hc⟩ := h3 hn
    cases e
    have hadd : (⟨b, off, none⟩ : Addr).add j = ⟨b, off + j, none⟩ := by unfold Addr.add; split <;> simp_all
    have hw : w.heap[b]? = some (.cells cs T fz) := hs _ _ hb
    rw [hadd]
    simp [World.cell?, hw, hc j hlt, hu]
end Go.Vc

namespace Go.Vc
open Go Go.RowKit
theorem allc {a : Value} {l : List Value} (h : a.oneCell' = true) (q : l.all (·.oneCell') = true) : (a :: l).all (·.oneCell') = true := by rw [List.all_cons, h, q]; rfl
theorem Sub.mono {f g h : HV} (a : Sub f g) (b : Sub g h) : Sub f h := a.trans b
section
variable {P : Program} {C : Cx} {N : Nat} {K : K3} {Q : Ex → K3} {env : Env} {V : HV} {σ : Res} {ops : Array Oper} {rest : List Oper} {w : World}
variable {d k b : Nat} {dst : Option Nat} {x y z : Operand} {t T T' T2 E : TypeId} {pos : String} {af : Array Edge} {g : Option (Nat × Bool)} {v : Value}

/-- An element of a slice that may grow is written. -/
theorem ops_stg {n : Nat} {i : Int} {u : Value} {xs : List Value} (hS : SizeIs P T 1) (hx : ev env x = eptr v i 1) (hy : ev env y = u) (hv1 : u.oneCell' = true) (hk : σ[k]? = some (Gr E 1 v n xs)) (h0 : 0 ≤ i) (h1 : i < xs.length)
    (h : Ops P C N ops K rest env V (σ.set k (Gr E 1 v n (xs.set i.toNat u)))) : Ops P C N ops K (⟨none, .store T x y, t, pos, af, none⟩ :: rest) env V σ := fun a w hf hm => by
  refine wpList_plain rfl fun K' hK' => ?_
  unfold Oper.wp
  obtain ⟨hs, s1, s2, s3⟩ := hm.own
  obtain ⟨hh, e, hl, hg⟩ := s1.get hk
  rcases hg with ⟨rfl, hn, _⟩ | ⟨gb, cap, cur, rfl, rfl, q1, q2, q3, q4⟩
  · omega
  · have hb : w.heap[gb]? = some (.cells cur E (0, 0)) := (s3 _ (List.mem_of_getElem? e)).1 gb _ (by simp [one])
    rw [Nat.mul_one] at hl q3 q4
    have hil : i.toNat < cur.toList.length := by rw [Array.length_toList]; omega
    have e1 : cur = cur.toList.toArray := by simp
    rw [e1] at hb
    rw [eptr_own] at hx
    have run : (execOp (ev env) ⟨none, .store T x y, t, pos, af, none⟩).run P w = .ok .skip { w with heap := w.heap.setIfInBounds gb (.cells (cur.toList.set i.toNat u).toArray E (0, 0)) } := by
      simp [execOp, hx, hy, Instr.storeAt, Instr.sureAddr, run_storeVar_one hS hv1 hb hil]
    rw [hf.eval, run]
    refine hK' _ _ (h _ _ (hf.put none _) (hm.upd hk fun q hq hqs hqd => ?_))
    have hqb : q gb ≠ none := by
      obtain ⟨_, hq⟩ := hq
      rcases hq with ⟨e, _⟩ | ⟨g2, _, _, e, rfl, _⟩
      · cases e
      · simp only [Value.slice.injEq, Option.some.injEq, Addr.mk.injEq] at e
        rw [e.1.1]; simp [one]
    refine Mem.single (h' := one gb (.cells (cur.toList.set i.toNat u).toArray E (0, 0))) rfl rfl rfl (by simp) (fun c hc hn => ?_) hm.view hqd (fun c o hc => ?_) ⟨by simp [hl], .inr ⟨gb, cap, _, rfl, rfl, q1, q2, by simp [q3], ?_⟩⟩ (fun c hc hn => ?_)
    · have hne : gb ≠ c := fun e => by subst e; exact hqb hn
      show (w.heap.setIfInBounds gb _)[c]? = _
      rw [Array.getElem?_setIfInBounds, if_neg hne]
    · unfold one at hc
      split at hc
      · rename_i e; subst e; cases hc
        show (w.heap.setIfInBounds c _)[c]? = _
        rw [Array.getElem?_setIfInBounds, if_pos rfl, if_pos (hv_lt (w := w) hb)]
      · cases hc
    · rw [Nat.mul_one]
      show (cur.toList.set i.toNat u).take n = xs.set i.toNat u
      rw [List.take_set, q4]
    · unfold one at hn
      split at hn
      · rename_i e; subst e; exact hqb
      · simp at hn
theorem inGi {n : Nat} {xs : List Int} {kk : IntKind} (hk : σ[k]? = some (Gr E 1 v n (xs.map (Value.int kk)))) : In C V σ (fun H => Ints kk H v xs) := inG hk
theorem Gr.len {n s : Nat} {xs : List Value} {h : HV} (hg : Gr E s v n xs h) : xs.length = n * s := hg.1

def takeS (v : Value) (h : Nat) : Value := match v with | .slice a _ c => .slice a h c | _ => v
theorem run_slice_hi {a : Option Addr} {n c h s : Nat} {kk : IntKind} (hT : P.underlying T = some (.slice E)) (hS : SizeIs P E s) (h1 : h ≤ c) (w : World) : (Instr.slice T (.slice a n c) none (some (.int kk h)) none).run P w = .ok (.slice a h c) w := by
  have e : (if c = 0 then a else Option.map (fun x => x.add 0) a) = a := by
    split
    · rfl
    · cases a with
      | none => rfl
      | some a => simp [Addr.add]
  simp [Instr.slice, run_underlying hT, Instr.sliceBounds, Instr.sliceBound, asIntOf, h1, run_sizeOf hS]
  cases a with
  | none => intro _; rfl
  | some a =>
    intro _
    obtain ⟨b, o, sp⟩ := a
    simp [Addr.add]
theorem qv_sliceHi {vals : List Value} {H : HV} {s : Nat} {kk : IntKind} {h : Int} (hT : P.underlying T = some (.slice E)) (hS : SizeIs P E s) (hx : ev env x = v) (hv : Sl H v vals) (hy : ev env y = .int kk h) (h0 : 0 ≤ h) (h1 : h ≤ vals.length) :
    QV P C ⟨dst, .slice T x none (some y) none, t, pos, af, g⟩ env V σ (takeS v h.toNat) := qv_run fun w _ => by
  obtain ⟨a, c, rfl, hc, _⟩ := hv
  have r := run_slice_hi (P := P) (a := a) (n := vals.length) (c := c) (h := h.toNat) (kk := kk) hT hS (by omega) w
  rw [show ((h.toNat : Nat) : Int) = h by omega] at r
  simp [execOp, hx, hy, Instr.sliceAt, run_underlying hT, r, takeS]
theorem Sl.take {H : HV} {v : Value} {vals : List Value} (h : Sl H v vals) {n : Nat} (hn : n ≤ vals.length) : Sl H (takeS v n) (vals.take n) := by
  obtain ⟨a, c, rfl, h1, h2, h3⟩ := h
  have hl : (vals.take n).length = n := by simp [hn]
  refine ⟨a, c, by simp [takeS, hl], by omega, h2, fun hne => ?_⟩
  obtain ⟨b, off, cs, T, fz, e1, e2, e3⟩ := h3 (fun e => hne (by simp [e]))
  refine ⟨b, off, cs, T, fz, e1, e2, fun i hi => ?_⟩
  rw [hl] at hi
  rw [e3 i (by omega), List.getElem?_take, if_pos hi]
theorem Ints.take {H : HV} {kk : IntKind} {v : Value} {xs : List Int} (h : Ints kk H v xs) {n : Nat} (hn : n ≤ xs.length) : Ints kk H (takeS v n) (xs.take n) := by
  have := Sl.take h (n := n) (by simpa using hn)
  rwa [← List.map_take] at this
/-- The part of a slice of one's own from lo on. -/
theorem qv_sliceLo {b n : Nat} {kk : IntKind} {lo : Int} (hT : P.underlying T = some (.slice E)) (hS : SizeIs P E 1) (hx : ev env x = .slice (some ⟨b, 0, none⟩) n n) (hy : ev env y = .int kk lo) (h0 : 0 ≤ lo) (h1 : lo < n) :
    QV P C ⟨dst, .slice T x (some y) none none, t, pos, af, g⟩ env V σ (.slice (some ⟨b, lo.toNat, none⟩) (n - lo.toNat) (n - lo.toNat)) := qv_run fun w _ => by
  obtain ⟨q, rfl⟩ : ∃ q : Nat, lo = q := ⟨lo.toNat, by omega⟩
  have h3 : (⟨b, 0, none⟩ : Addr).add q = ⟨b, q, none⟩ := by
    unfold Addr.add; split <;> simp_all
  have h6 : q ≤ n := by omega
  have h7 : ¬ n = q := by omega
  simp only [Int.toNat_natCast]
  simp [execOp, hx, hy, Instr.sliceAt, Instr.slice, run_underlying hT, Instr.sliceBounds, Instr.sliceBound, asIntOf, run_sizeOf hS, h3, h6, h7]
/-- Copying into a row of one's own. -/
theorem ops_copy {b o dl dc sl sc : Nat} {ad : Addr} {cs news : List Value} (hT : P.underlying T = some (.slice E)) (hS : SizeIs P E 1) (hx : ev env x = .slice (some ⟨b, o, none⟩) dl dc) (hy : ev env y = .slice (some ad) sl sc) (hk : σ[k]? = some (Arr T' b cs))
    (hn : news.length = Nat.min sl dl) (hsrc : ∀ w, Mem C V σ w → ∀ j u, news[j]? = some u → w.cell? (ad.add j) = some u) (hfit : o + news.length ≤ cs.length) (h1 : ∀ u ∈ news, u.oneCell' = true)
    (h : Ops P C N ops K rest (upd N env d (.int .i64 news.length)) V (σ.set k (Arr T' b (cs.take o ++ news ++ cs.drop (o + news.length))))) :
    Ops P C N ops K (⟨some d, .call { callee := .builtin .copy, args := #[x, y], argTypes := #[T, T2] }, t, pos, af, none⟩ :: rest) env V σ := fun a w hf hm => by
  refine wpList_plain rfl fun K' hK' => ?_
  unfold Oper.wp
  have hb := (hm.blk hk).1
  have r := run_copy_row (P := P) w T T2 t E b o dl dc ad sl sc cs.toArray T' news hT hS hb hn (hsrc w hm) (by simpa using hfit) h1
  have hb : w.heap[b]? = some (.cells cs.toArray T' (0, 0)) := hb
  have hrow : w.setRow b (cs.take o ++ news ++ cs.drop (o + news.length)).toArray = { w with heap := w.heap.setIfInBounds b (.cells (cs.take o ++ news ++ cs.drop (o + news.length)).toArray T' (0, 0)) } := by
    unfold World.setRow
    congr 1
    have hlt : b < w.heap.size := hv_lt (w := w) hb
    apply Array.ext
    · simp
    · intro i q1 q2
      simp only [Array.getElem_modify]
      by_cases hi : b = i
      · subst hi
        have : w.heap[b] = .cells cs.toArray T' (0, 0) := by rw [Array.getElem?_eq_getElem hlt] at hb; exact Option.some.inj hb
        simp [this]
      · rw [if_neg hi, Array.getElem_setIfInBounds_ne _ hi]
  have e : (execOp (ev env) ⟨some d, .call { callee := .builtin .copy, args := #[x, y], argTypes := #[T, T2] }, t, pos, af, none⟩).run P w = .ok (.value (.int .i64 news.length)) { w with heap := w.heap.setIfInBounds b (.cells (cs.take o ++ news ++ cs.drop (o + news.length)).toArray T' (0, 0)) } := by
    rw [← hrow]
    simp only [execOp, resolve, invoke, builtin, Sem.run_bind, Sem.run_pure, Result.andThen_ok, List.map_toArray, List.map_cons, List.map_nil, hx, hy, r]
    rfl
  rw [hf.eval, e]
  exact hK' _ _ (h _ _ (hf.put (some d) _) (hm.setBlk hk _ _ rfl))
theorem ops_perm {l : List Oper} {σ' : Res} (hp : σ.Perm σ') (h : Ops P C N ops K l env V σ') : Ops P C N ops K l env V σ := fun a w hf hm => h a w hf (hm.perm hp)
theorem vc_perm {c : Code} {σ' : Res} (hp : σ.Perm σ') (h : VC P C N c K Q env V σ') : VC P C N c K Q env V σ := fun a w hf hm => h a w hf (hm.perm hp)
theorem qv_lenG {vals : List Value} {at_ : TypeId} (hT : P.underlying at_ = some (.slice E)) (hx : ev env x = v) (hv : In C V σ (fun H => Sl H v vals)) : QV P C ⟨dst, .call { callee := .builtin .len, args := #[x], argTypes := #[at_] }, t, pos, af, g⟩ env V σ (.int .i64 vals.length) := fun w hm =>
  qv_lenS (H := Go.Vc.hv w) hT hx (hv w hm) w hm
theorem qv_lenGi {xs : List Int} {kk : IntKind} {at_ : TypeId} (hT : P.underlying at_ = some (.slice E)) (hx : ev env x = v) (hv : In C V σ (fun H => Ints kk H v xs)) : QV P C ⟨dst, .call { callee := .builtin .len, args := #[x], argTypes := #[at_] }, t, pos, af, g⟩ env V σ (.int .i64 xs.length) := by
  have := qv_lenG (dst := dst) (t := t) (pos := pos) (af := af) (g := g) hT hx (vals := xs.map (Value.int kk)) hv
  rwa [List.length_map] at this
end
end Go.Vc

namespace Go.Vc
open Go Go.RowKit
open Classical

/-- A type of keys: how the program's values of it stand for κ. -/
structure KeyT (P : Program) (T : TypeId) {κ : Type} (enc : κ → Value) : Prop where
  check : ∀ (e : Bool) (k : κ) (w : World), (Instr.checkKey e 10000 T (enc k)).run P w = .ok () w
  eq : ∀ (a b : κ) (w : World), (Op.equal T (enc a) (enc b)).run P w = .ok (decide (a = b)) w
  same : ∀ k, Instr.sameBits 10000 (enc k) (enc k) = true
  desc : ∃ d, P.underlying T = some d ∧ ∀ a b, Instr.sameNow d (enc a) (enc b) = none ∨ Instr.sameNow d (enc a) (enc b) = some (decide (a = b))

section
variable {P : Program} {T : TypeId} {κ α : Type} {ek : κ → Value}
/-- The value of a key in a list. -/
noncomputable def lk (k : κ) : List (κ × α) → Option α
  | [] => none
  | p :: r => if p.1 = k then some p.2 else lk k r
noncomputable def fnd (k : κ) : List κ → List MapEntry → Nat → Option (Nat × Value)
  | q :: qs, e :: es, i => if k = q then some (i, e.val) else fnd k qs es (i + 1)
  | _, _, _ => none
theorem findAsking_run (hK : KeyT P T ek) (k : κ) (w : World) : ∀ (es : List MapEntry) (qs : List κ) (i : Nat), es.map (·.key) = qs.map ek → (Instr.findAsking T (ek k) es i).run P w = .ok (fnd k qs es i) w
  | [], qs, i, h => by
    have : qs = [] := by cases qs with | nil => rfl | cons _ _ => simp at h
    subst this; simp [Instr.findAsking, fnd]
  | e :: es, qs, i, h => by
    match qs, h with
    | [], h => simp at h
    | q :: qs, h =>
      simp only [List.map_cons, List.cons.injEq] at h
      have ih := findAsking_run hK k w es qs (i + 1) h.2
      simp only [Instr.findAsking, Sem.run_bind, h.1, hK.eq, Result.andThen_ok, fnd]
      by_cases hq : k = q
      · simp [hq]
      · simp [hq, ih]
theorem findNow_run {d : TypeDesc} (hd : ∀ a b, Instr.sameNow d (ek a) (ek b) = none ∨ Instr.sameNow d (ek a) (ek b) = some (decide (a = b))) (k : κ) : ∀ (es : List MapEntry) (qs : List κ) (i : Nat), es.map (·.key) = qs.map ek →
    Instr.findNow d (ek k) es i = none ∨ Instr.findNow d (ek k) es i = some (fnd k qs es i)
  | [], qs, i, h => by
    have : qs = [] := by cases qs with | nil => rfl | cons _ _ => simp at h
    subst this; exact Or.inr rfl
  | e :: es, qs, i, h => by
    match qs, h with
    | [], h => simp at h
    | q :: qs, h =>
      simp only [List.map_cons, List.cons.injEq] at h
      have ih := findNow_run hd k es qs (i + 1) h.2
      simp only [Instr.findNow, h.1, fnd]
      rcases hd k q with e1 | e1
      · rw [e1]; exact Or.inl rfl
      · rw [e1]
        by_cases hq : k = q
        · simp [hq]
        · simpa [hq] using ih
theorem findKey_run (hK : KeyT P T ek) (k : κ) (es : List MapEntry) (qs : List κ) (w : World) (h : es.map (·.key) = qs.map ek) : (Instr.findKey T (ek k) es).run P w = .ok (fnd k qs es 0) w := by
  obtain ⟨d, hu, hd⟩ := hK.desc
  simp only [Instr.findKey, Sem.run_bind, run_underlying hu, Result.andThen_ok]
  rcases findNow_run hd k es qs 0 h with e | e
  · rw [e]; exact findAsking_run hK k w es qs 0 h
  · rw [e]; rfl
theorem fnd_lk {vl : α → Value} (k : κ) : ∀ (kv : List (κ × α)) (es : List MapEntry) (i : Nat), es.map (·.val) = kv.map (fun p => vl p.2) → (fnd k (kv.map Prod.fst) es i).map Prod.snd = (lk k kv).map vl
  | [], es, i, _ => by
    cases es <;> rfl
  | p :: kv, es, i, h => by
    match es, h with
    | [], h => simp at h
    | e :: es, h =>
      simp only [List.map_cons, List.cons.injEq] at h
      have ih := fnd_lk k kv es (i + 1) h.2
      simp only [List.map_cons, fnd, lk]
      by_cases hq : k = p.1
      · rw [if_pos hq, if_pos hq.symm]; simp [h.1]
      · rw [if_neg hq, if_neg (fun e => hq e.symm)]; exact ih
theorem fnd_none {k : κ} : ∀ (qs : List κ) (es : List MapEntry) (i : Nat), es.length = qs.length → fnd k qs es i = none → k ∉ qs
  | [], _, _, _, _ => by simp
  | q :: qs, es, i, hl, h => by
    match es, hl with
    | e :: es, hl =>
      simp only [fnd] at h
      by_cases hq : k = q
      · rw [if_pos hq] at h; cases h
      · rw [if_neg hq] at h
        have := fnd_none qs es (i + 1) (by simpa using hl) h
        simp [hq, this]
theorem fnd_some {k : κ} : ∀ (qs : List κ) (es : List MapEntry) (i j : Nat) (v : Value), fnd k qs es i = some (j, v) → i ≤ j ∧ qs[j - i]? = some k
  | [], es, i, j, v, h => by cases es <;> simp [fnd] at h
  | q :: qs, [], i, j, v, h => by simp [fnd] at h
  | q :: qs, e :: es, i, j, v, h => by
    simp only [fnd] at h
    by_cases hq : k = q
    · rw [if_pos hq] at h; simp at h; subst hq; obtain ⟨rfl, _⟩ := h; simp
    · rw [if_neg hq] at h
      have := fnd_some qs es (i + 1) j v h
      refine ⟨by omega, ?_⟩
      rw [show j - i = (j - (i + 1)) + 1 by omega]; simpa using this.2
theorem lk_append {k : κ} {kv : List (κ × α)} {a : κ} {x : α} (h : a ∉ kv.map Prod.fst) : lk k (kv ++ [(a, x)]) = if k = a then some x else lk k kv := by
  induction kv with
  | nil =>
    simp only [List.nil_append, lk]
    by_cases e : k = a
    · rw [if_pos e, if_pos e.symm]
    · rw [if_neg e, if_neg (fun q => e q.symm)]
  | cons p kv ih =>
    simp only [List.map_cons, List.mem_cons, not_or] at h
    simp only [List.cons_append, lk, ih h.2]
    by_cases e : p.1 = k
    · rw [if_pos e, if_pos e]
      by_cases e2 : k = a
      · exact absurd (e2.symm.trans e.symm) h.1
      · rw [if_neg e2]
    · rw [if_neg e, if_neg e]
theorem lk_set {k : κ} {x : α} : ∀ {kv : List (κ × α)} {j : Nat} {a : κ}, (kv.map Prod.fst).Nodup → (kv.map Prod.fst)[j]? = some a → lk k (kv.modify j fun p => (p.1, x)) = if k = a then some x else lk k kv
  | [], j, a, _, h => by simp at h
  | p :: kv, 0, a, hn, h => by
    simp only [List.map_cons, List.getElem?_cons_zero, Option.some.injEq] at h
    subst h
    simp only [List.modify_zero_cons, lk]
    by_cases e : k = p.1
    · rw [if_pos e.symm, if_pos e]
    · rw [if_neg (fun q => e q.symm), if_neg e, if_neg (fun q => e q.symm)]
  | p :: kv, j + 1, a, hn, h => by
    simp only [List.map_cons, List.nodup_cons, List.getElem?_cons_succ] at hn h
    have ih := lk_set (k := k) (x := x) hn.2 h
    simp only [List.modify_succ_cons, lk, ih]
    have ha : a ∈ kv.map Prod.fst := List.mem_of_getElem? h
    by_cases e : p.1 = k
    · rw [if_pos e, if_pos e, if_neg (fun q => hn.1 (by rw [e, q]; exact ha))]
    · rw [if_neg e, if_neg e]
end

/-- A map of one's own: it gives what f gives. -/
def Mf {κ α : Type} (b : Nat) (ek : κ → Value) (vl : α → Value) (f : κ → Option α) : Asrt := fun h =>
  ∃ (es : Array MapEntry) (kv : List (κ × α)), h = one b (.map es es.size) ∧ es.toList.map (·.key) = kv.map (fun p => ek p.1) ∧ es.toList.map (·.val) = kv.map (fun p => vl p.2) ∧
    es.toList.map (·.born) = List.range es.size ∧ (kv.map Prod.fst).Nodup ∧ ∀ k, lk k kv = f k
noncomputable def setF {κ α : Type} (f : κ → Option α) (k : κ) (v : α) : κ → Option α := fun q => if q = k then some v else f q
theorem setF_same {κ α : Type} {f : κ → Option α} {k : κ} {v : α} : setF f k v k = some v := if_pos rfl
theorem setF_other {κ α : Type} {f : κ → Option α} {k q : κ} {v : α} (h : q ≠ k) : setF f k v q = f q := if_neg h

section
variable {P : Program} {C : Cx} {N : Nat} {K : K3} {Q : Ex → K3} {env : Env} {V : HV} {σ : Res} {ops : Array Oper} {rest : List Oper} {w : World}
variable {d k b : Nat} {dst : Option Nat} {x y z : Operand} {t T T' E KT : TypeId} {pos : String} {af : Array Edge} {g : Option (Nat × Bool)} {κ α : Type} {ek : κ → Value} {vl : α → Value} {f : κ → Option α} {key : κ} {a0 a1 : α}

theorem Mem.mf (m : Mem C V σ w) (hk : σ[k]? = some (Mf b ek vl f)) : ∃ (es : Array MapEntry) (kv : List (κ × α)), w.heap[b]? = some (.map es es.size) ∧ es.toList.map (·.key) = kv.map (fun p => ek p.1) ∧ es.toList.map (·.val) = kv.map (fun p => vl p.2) ∧
    es.toList.map (·.born) = List.range es.size ∧ (kv.map Prod.fst).Nodup ∧ ∀ k, lk k kv = f k := by
  obtain ⟨hs, h1, h2, h3⟩ := m.own
  obtain ⟨h, e, es, kv, rfl, q⟩ := h1.get hk
  exact ⟨es, kv, (h3 _ (List.mem_of_getElem? e)).1 b _ (by simp [one]), q⟩

theorem run_zeroVal {s yy : Nat} {z0 : Value} (hi : TI P E z0 s yy) (w : World) : (zeroValue E).run P w = .ok z0 w := by
  obtain ⟨i, i1, i2, i3, i4⟩ := hi.out
  simp [zeroValue, typeInfo, i1, i2]

theorem run_look {s yy : Nat} (m : Mem C V σ w) (hT : P.underlying T = some (.map KT E)) (hK : KeyT P KT ek) (hz : TI P E (vl a0) s yy) (hk : σ[k]? = some (Mf b ek vl f)) (ok : Bool) :
    (Instr.lookup T (.map (some b)) (ek key) ok).run P w = .ok (if ok then .tuple #[vl ((f key).getD a0), .bool (decide ((f key).isSome = true))] else vl ((f key).getD a0)) w := by
  obtain ⟨es, kv, hb, h1, h2, h3, h4, h5⟩ := m.mf hk
  have e1 := findKey_run hK key es.toList (kv.map Prod.fst) w (by rw [h1, List.map_map]; rfl)
  have e2 := fnd_lk (vl := vl) key kv es.toList 0 h2
  rw [h5] at e2
  simp only [Instr.lookup, Sem.run_bind, run_underlying hT, Result.andThen_ok, MapKept.run_getObj_map hb, hK.check, Sem.run_pure, e1]
  cases hf : fnd key (kv.map Prod.fst) es.toList 0 with
  | none =>
    rw [hf] at e2
    have : f key = none := by cases hq : f key with | none => rfl | some v => rw [hq] at e2; simp at e2
    simp [run_zeroVal hz, this]
  | some p =>
    rw [hf] at e2
    cases hq : f key with
    | none => rw [hq] at e2; simp at e2
    | some v =>
      rw [hq] at e2
      have : p.2 = vl v := by simpa using e2
      simp [this]

theorem qv_look {s yy : Nat} (hT : P.underlying T = some (.map KT E)) (hK : KeyT P KT ek) (hz : TI P E (vl a0) s yy) (hk : σ[k]? = some (Mf b ek vl f)) (hx : ev env x = .map (some b)) (hy : ev env y = ek key) :
    QV P C ⟨dst, .lookup T x y true, t, pos, af, g⟩ env V σ (.tuple #[vl ((f key).getD a0), .bool (decide ((f key).isSome = true))]) := qv_run fun w hm => by
  have := run_look (key := key) hm hT hK hz hk true
  simp [execOp, hx, hy, this]
theorem qv_look1 {s yy : Nat} (hT : P.underlying T = some (.map KT E)) (hK : KeyT P KT ek) (hz : TI P E (vl a0) s yy) (hk : σ[k]? = some (Mf b ek vl f)) (hx : ev env x = .map (some b)) (hy : ev env y = ek key) :
    QV P C ⟨dst, .lookup T x y false, t, pos, af, g⟩ env V σ (vl ((f key).getD a0)) := qv_run fun w hm => by
  have := run_look (key := key) hm hT hK hz hk false
  simp [execOp, hx, hy, this]

/-- A new map. -/
theorem Mem.mkmap (m : Mem C V σ w) (ek : κ → Value) (vl : α → Value) (w' : World) (hw : w' = { w with heap := w.heap.push (.map #[] 0) }) : Mem C V (σ ++ [Mf w.heap.size ek vl fun _ => none]) w' := by
  have m1 := m.alloc (.map #[] 0) w' hw
  obtain ⟨hs, h1, h2, h3⟩ := m1.own
  refine ⟨m1.os, m1.tape, m1.output, m1.dr, m1.size, m1.frame, m1.sub, m1.view, m1.vold, hs, ?_, h2, h3⟩
  obtain ⟨p, q, rfl, s1, s2⟩ := h1.split
  match q, s2 with
  | [h], s2 => exact s1.append ⟨⟨#[], [], s2.1, rfl, rfl, rfl, List.nodup_nil, fun _ => rfl⟩, trivial⟩
theorem ops_mkmap0 (ek : κ → Value) (vl : α → Value) (h : ∀ b, Ops P C N ops K rest (Go.Vc.upd N env d (.map (some b))) V (σ ++ [Mf b ek vl fun _ => none])) :
    Ops P C N ops K (⟨some d, .makeMap T none, t, pos, af, none⟩ :: rest) env V σ := fun a w hf hm => by
  refine wpList_plain rfl fun K' hK' => ?_
  unfold Oper.wp
  have e : (execOp (ev env) ⟨some d, .makeMap T none, t, pos, af, none⟩).run P w = .ok (.value (.map (some w.heap.size))) { w with heap := w.heap.push (.map #[] 0) } := by
    simp [execOp, Instr.makeMap, newObj, Sem.run]
  rw [hf.eval, e]
  exact hK' _ _ (h w.heap.size _ _ (hf.put (some d) _) (hm.mkmap ek vl _ rfl))
/-- A key is laid, anew or once more. -/
theorem Mem.setMf {es' : Array MapEntry} (m : Mem C V σ w) (hk : σ[k]? = some (Mf b ek vl f)) (w' : World) (hw : w' = { w with heap := w.heap.setIfInBounds b (.map es' es'.size) }) (kv' : List (κ × α))
    (q1 : es'.toList.map (·.key) = kv'.map (fun p => ek p.1)) (q2 : es'.toList.map (·.val) = kv'.map (fun p => vl p.2)) (q3 : es'.toList.map (·.born) = List.range es'.size) (q4 : (kv'.map Prod.fst).Nodup) (f' : κ → Option α) (q5 : ∀ k, lk k kv' = f' k) :
    Mem C V (σ.set k (Mf b ek vl f')) w' := by
  refine m.upd hk fun h hA hs hd => ?_
  obtain ⟨es0, kv0, rfl, _⟩ := hA
  have hb : hv w b = some (.map es0 es0.size) := hs b _ (by simp [one])
  have hlt := hv_lt hb
  subst hw
  refine Mem.single (h' := one b (.map es' es'.size)) rfl rfl rfl (by simp) (fun c hc hn => ?_) (fun c o hc => ?_) hd (fun c o hc => ?_) ⟨es', kv', rfl, q1, q2, q3, q4, q5⟩ (fun c hc hn => ?_)
  · have hne : c ≠ b := fun e => by subst e; simp [one] at hn
    show (w.heap.setIfInBounds b _)[c]? = _
    rw [Array.getElem?_setIfInBounds, if_neg (fun e => hne e.symm)]
  · exact m.view c o hc
  · unfold one at hc
    split at hc
    · rename_i e; subst e; cases hc
      show (w.heap.setIfInBounds c _)[c]? = _
      rw [Array.getElem?_setIfInBounds, if_pos rfl, if_pos hlt]
    · cases hc
  · unfold one at hn ⊢
    split at hn
    · rename_i e; rw [if_pos e]; simp
    · simp at hn
theorem run_mapUpdate {v : α} (m : Mem C V σ w) (hT : P.underlying T = some (.map KT E)) (hK : KeyT P KT ek) (hk : σ[k]? = some (Mf b ek vl f)) :
    ∃ w', (Instr.mapUpdate T (.map (some b)) (ek key) (vl v)).run P w = .ok () w' ∧ Mem C V (σ.set k (Mf b ek vl (setF f key v))) w' := by
  obtain ⟨es, kv, hb, h1, h2, h3, h4, h5⟩ := m.mf hk
  have hl : es.toList.length = kv.length := by have := congrArg List.length h1; simpa using this
  have e1 := findKey_run hK key es.toList (kv.map Prod.fst) w (by rw [h1, List.map_map]; rfl)
  simp only [Instr.mapUpdate, Sem.run_bind, run_underlying hT, Result.andThen_ok, MapKept.run_getObj_map hb, hK.check, e1]
  cases hf : fnd key (kv.map Prod.fst) es.toList 0 with
  | none =>
    have hn := fnd_none _ _ _ (by simp [hl]) hf
    refine ⟨_, MapKept.run_setObj_map _ hb, ?_⟩
    have := m.setMf (es' := es.push { key := ek key, val := vl v, born := es.size }) hk _ (by simp; rfl) (kv ++ [(key, v)]) (by simp [h1]) (by simp [h2]) (by simp [h3, List.range_succ]) (by
      rw [List.map_append, List.nodup_append]
      refine ⟨h4, by simp, ?_⟩
      intro a ha b hb
      simp only [List.map_cons, List.map_nil, List.mem_singleton] at hb
      subst hb; rintro rfl; exact hn ha) (setF f key v) (fun q => by rw [lk_append hn, h5]; rfl)
    exact this
  | some p =>
    obtain ⟨j, u⟩ := p
    obtain ⟨_, hj⟩ := fnd_some _ _ _ _ _ hf
    rw [Nat.sub_zero] at hj
    have hjl : j < es.size := by
      have := (List.getElem?_eq_some_iff.1 hj).1
      have e : es.toList.length = es.size := Array.length_toList
      simp at this; omega
    have hkey : es[j].key = ek key := by
      have := congrArg (fun l => l[j]?) h1
      simp only [List.getElem?_map, Array.getElem?_toList] at this
      rw [List.getElem?_map] at hj
      cases hkj : kv[j]? with
      | none => rw [hkj] at hj; cases hj
      | some p =>
        rw [hkj] at hj this
        simp at hj
        rw [Array.getElem?_eq_getElem hjl] at this
        simp at this
        rw [this, hj]
    have hstay : (Instr.keyThatStays (((es[j]?).map (·.key)).getD (ek key)) (ek key)).run P w = .ok (ek key) w := by
      rw [Array.getElem?_eq_getElem hjl]
      simp [hkey, Instr.keyThatStays, hK.same]
    simp only [Sem.run_bind, hstay, Result.andThen_ok]
    refine ⟨_, MapKept.run_setObj_map _ hb, ?_⟩
    have hmod : ∀ {β : Type} (F : MapEntry → β) (g' : MapEntry → MapEntry), ((es.modify j g').toList.map F) = (es.toList.map F).modify j (fun x => if h : j < es.size then F (g' es[j]) else x) := fun F g' => by
      apply List.ext_getElem?
      intro i
      simp only [List.getElem?_map, Array.getElem?_toList, List.getElem?_modify, Array.getElem?_modify]
      by_cases hij : j = i
      · subst hij; simp [hjl]
      · simp [hij]
    have := m.setMf (es' := es.modify j fun e => { e with key := ek key, val := vl v }) hk _ (by simp; rfl) (kv.modify j fun p => (p.1, v)) (by
        rw [hmod, h1]
        apply List.ext_getElem?
        intro i
        simp only [List.getElem?_modify, List.getElem?_map]
        by_cases hij : j = i
        · subst hij
          rw [List.getElem?_map] at hj
          cases hkj : kv[j]? with
          | none => simp
          | some p => rw [hkj] at hj; simp at hj; simp [hjl, hj]
        · simp [hij]) (by
        rw [hmod, h2]
        apply List.ext_getElem?
        intro i
        simp only [List.getElem?_modify, List.getElem?_map]
        by_cases hij : j = i
        · subst hij; cases hkj : kv[j]? <;> simp [hjl]
        · simp [hij]) (by
        rw [hmod, h3]
        apply List.ext_getElem?
        intro i
        simp only [List.getElem?_modify, Array.size_modify]
        by_cases hij : j = i
        · subst hij
          have := congrArg (fun l => l[j]?) h3
          simp only [List.getElem?_map, Array.getElem?_toList, Array.getElem?_eq_getElem hjl] at this
          simp [hjl] at this ⊢
          exact this
        · simp [hij]) (by
        have e : (kv.modify j fun p => (p.1, v)).map Prod.fst = kv.map Prod.fst := by
          apply List.ext_getElem?
          intro i
          simp only [List.getElem?_modify, List.getElem?_map]
          by_cases hij : j = i
          · subst hij; cases hkj : kv[j]? <;> simp
          · simp [hij]
        rw [e]; exact h4) (setF f key v) (fun q => by rw [lk_set h4 hj, h5]; rfl)
    exact this
theorem ops_mapset {v : α} (hT : P.underlying T = some (.map KT E)) (hK : KeyT P KT ek) (hx : ev env x = .map (some b)) (hy : ev env y = ek key) (hz : ev env z = vl v) (hk : σ[k]? = some (Mf b ek vl f))
    (h : Ops P C N ops K rest env V (σ.set k (Mf b ek vl (setF f key v)))) : Ops P C N ops K (⟨none, .mapUpdate T x y z, t, pos, af, none⟩ :: rest) env V σ := fun a w hf hm => by
  refine wpList_plain rfl fun K' hK' => ?_
  unfold Oper.wp
  obtain ⟨w', e, hm'⟩ := run_mapUpdate (key := key) (v := v) hm hT hK hk
  have e' : (execOp (ev env) ⟨none, .mapUpdate T x y z, t, pos, af, none⟩).run P w = .ok .skip w' := by
    simp [execOp, hx, hy, hz, e]
  rw [hf.eval, e']
  exact hK' _ _ (h _ _ (hf.put none _) hm')

theorem KeyT.int {q : IntKind} (hu : P.underlying KT = some (.int q)) : KeyT P KT (Value.int q) where
  check := fun e k w => by
    rw [show (10000 : Nat) = 9999 + 1 from rfl, Instr.checkKey]
    simp [run_underlying hu]
  eq := fun a b w => by
    have h1 : ∀ d, (Op.equalIn (d + 1) KT (.int q a) (.int q b)).run P w = .ok (a == b) w := fun d => by simp [Op.equalIn, run_underlying hu]
    have h2 : (a == b) = @decide (a = b) (propDecidable _) := by by_cases h : a = b <;> simp [h]
    rw [← h2]; exact h1 9999
  same := fun k => by
    rw [show (10000 : Nat) = 9999 + 1 from rfl]; simp [Instr.sameBits]
  desc := ⟨_, hu, fun a b => Or.inr (by
    have h2 : (a == b) = @decide (a = b) (propDecidable _) := by by_cases h : a = b <;> simp [h]
    simp [Instr.sameNow, h2])⟩
end
end Go.Vc

namespace Go.Vc
open Go Go.RowKit
/-- v is a slice of n elements of s cells each; the cells are xs. -/
def SlS (s : Nat) (H : HV) (v : Value) (n : Nat) (xs : List Value) : Prop :=
  ∃ a cap, v = .slice a n cap ∧ n ≤ cap ∧ cap ≤ 9223372036854775807 ∧ xs.length = n * s ∧
    (n ≠ 0 → ∃ b off cs T fz, a = some ⟨b, off, none⟩ ∧ H b = some (.cells cs T fz) ∧ ∀ i, i < n * s → cs[off + i]? = xs[i]?)
theorem SlS.mono {s n : Nat} {H H' : HV} {v : Value} {xs : List Value} (h : SlS s H v n xs) (q : Sub H H') : SlS s H' v n xs := by
  obtain ⟨a, cap, h1, h2, h3, h4, h5⟩ := h
  refine ⟨a, cap, h1, h2, h3, h4, fun hn => ?_⟩
  obtain ⟨b, off, cs, T, fz, e1, e2, e3⟩ := h5 hn
  exact ⟨b, off, cs, T, fz, e1, q _ _ e2, e3⟩
theorem SlS.bound {s n : Nat} {H : HV} {v : Value} {xs : List Value} (h : SlS s H v n xs) : n ≤ 9223372036854775807 := by obtain ⟨_, _, _, _, _, _⟩ := h; omega
theorem SlS.cells {s n : Nat} {H : HV} {v : Value} {xs : List Value} (h : SlS s H v n xs) : v.cells = [v].toArray := by obtain ⟨_, _, h, _⟩ := h; rw [h]; rfl
theorem SlS.one {s n : Nat} {H : HV} {v : Value} {xs : List Value} (h : SlS s H v n xs) : v.oneCell' = true := by obtain ⟨_, _, h, _⟩ := h; rw [h]; rfl
theorem SlS.nil {s : Nat} {H : HV} : SlS s H (.slice none 0 0) 0 [] := ⟨none, 0, rfl, Nat.le_refl _, Nat.zero_le _, by simp, fun h => absurd rfl h⟩
/-- The address of the cell o of the element i. -/
def fptr (v : Value) (i : Int) (s o : Nat) : Value := match v with | .slice (some a) _ _ => .pointer (some (a.add (i.toNat * s + o))) | _ => undef
theorem add_none (b off k : Nat) : (⟨b, off, none⟩ : Addr).add k = ⟨b, off + k, none⟩ := by
  unfold Addr.add; split
  · rename_i h; subst h; rfl
  · rfl
theorem cells_sls {H : HV} {b n s : Nat} {cs : List Value} {c : Nat} (h : Cells H b cs) (hn : cs.length = n * s) (hc : n ≤ c) (hm : c ≤ 9223372036854775807) : SlS s H (.slice (some ⟨b, 0, none⟩) n c) n cs := by
  obtain ⟨T, fz, h⟩ := h
  exact ⟨_, c, rfl, hc, hm, hn, fun _ => ⟨b, 0, cs.toArray, T, fz, rfl, h, fun i _ => by simp⟩⟩
section
variable {P : Program} {C : Cx} {N : Nat} {K : K3} {Q : Ex → K3} {env : Env} {V : HV} {σ : Res} {ops : Array Oper} {rest : List Oper} {w : World}
variable {d k b n s : Nat} {dst : Option Nat} {x y z : Operand} {t T T' T2 E : TypeId} {pos : String} {af : Array Edge} {g : Option (Nat × Bool)} {v : Value} {xs : List Value}

theorem SlS.at {H : HV} (h : SlS s H v n xs) {i : Int} (h0 : 0 ≤ i) (h1 : i < n) : ∃ b off cs T fz c, v = .slice (some ⟨b, off, none⟩) n c ∧ n ≤ c ∧ H b = some (.cells cs T fz) ∧ eptr v i s = .pointer (some ⟨b, off + i.toNat * s, none⟩) ∧
    (∀ o, fptr v i s o = .pointer (some ⟨b, off + (i.toNat * s + o), none⟩)) ∧ ∀ o, o < s → cs[off + (i.toNat * s + o)]? = xs[i.toNat * s + o]? := by
  obtain ⟨a, c, hv, hc, _, hl, hh⟩ := h
  have hlt : i.toNat < n := by omega
  obtain ⟨b, off, cs, T, fz, rfl, e2, e3⟩ := hh (by omega)
  refine ⟨b, off, cs, T, fz, c, hv, hc, e2, ?_, fun o => ?_, fun o ho => e3 _ ?_⟩
  · rw [hv]; simp only [eptr]; rw [add_none]
  · rw [hv]; simp only [fptr]; rw [add_none]
  · have : (i.toNat + 1) * s ≤ n * s := Nat.mul_le_mul_right s hlt
    rw [Nat.add_mul, Nat.one_mul] at this; omega
theorem qv_lenSS {H : HV} {at_ : TypeId} (hT : P.underlying at_ = some (.slice E)) (hx : ev env x = v) (hv : SlS s H v n xs) :
    QV P C ⟨dst, .call { callee := .builtin .len, args := #[x], argTypes := #[at_] }, t, pos, af, g⟩ env V σ (.int .i64 n) := by
  obtain ⟨a, c, h, _⟩ := hv; exact qv_len hT hx h
theorem qv_lenGr {m : Nat} {E2 at_ : TypeId} (hT : P.underlying at_ = some (.slice E)) (hx : ev env x = v) (hk : σ[k]? = some (Gr E2 s v m xs)) :
    QV P C ⟨dst, .call { callee := .builtin .len, args := #[x], argTypes := #[at_] }, t, pos, af, g⟩ env V σ (.int .i64 m) := fun w hm => by
  obtain ⟨hs, s1, _, _⟩ := hm.own
  obtain ⟨h, _, hg⟩ := s1.get hk
  obtain ⟨a, c, e, _⟩ := hg.shape
  exact qv_len hT hx e w hm
theorem qv_ias {i : Int} {kk : IntKind} (hT : P.underlying T = some (.slice E)) (hS : SizeIs P E s) (hx : ev env x = v) (hv : SlS s V v n xs) (hy : ev env y = .int kk i) (h0 : 0 ≤ i) (h1 : i < n) :
    QV P C ⟨dst, .indexAddr T x y, t, pos, af, g⟩ env V σ (eptr v i s) := qv_run fun w hm => by
  obtain ⟨b, off, cs, T', fz, c, e, _⟩ := (hv.mono hm.view).at h0 h1
  simp only [execOp, hx, hy, e, Instr.indexAt, asIntOf, underlying, eptr]
  simp [hT, run_sizeOf hS, h0, h1]
theorem qv_fas {i : Int} {f o : Nat} (hF : FieldIs P T f o) (hx : ev env x = eptr v i s) (hv : SlS s V v n xs) (h0 : 0 ≤ i) (h1 : i < n) : QV P C ⟨dst, .fieldAddr T x f, t, pos, af, g⟩ env V σ (fptr v i s o) := by
  obtain ⟨b, off, cs, T', fz, c, e, _, _, e3, e4, _⟩ := hv.at h0 h1
  rw [e4 o, ← Nat.add_assoc]
  exact qv_fa hF (hx.trans e3)
theorem qv_lds {i : Int} {vs : List Value} (hA : AggIs P T s) (hx : ev env x = eptr v i s) (hv : SlS s V v n xs) (h0 : 0 ≤ i) (h1 : i < n) (hs : (xs.drop (i.toNat * s)).take s = vs) : QV P C ⟨dst, .load T x, t, pos, af, g⟩ env V σ (.agg vs.toArray) := qv_run fun w hm => by
  obtain ⟨b, off, cs, T', fz, c, e, _, e2, e3, _, e5⟩ := (hv.mono hm.view).at h0 h1
  obtain ⟨_, _, _, _, _, hl, _⟩ := hv
  have hlt : (i.toNat + 1) * s ≤ n * s := Nat.mul_le_mul_right s (by omega)
  rw [Nat.add_mul, Nat.one_mul] at hlt
  have hvl : vs.length = s := by rw [← hs, List.length_take, List.length_drop, hl]; omega
  have h0' : w.heap[b]? = some (.cells cs T' fz) := e2
  have h : w.heap[b]? = some (.cells cs.toList.toArray T' fz) := by simpa using h0'
  have hcs : (cs.toList.drop (off + i.toNat * s)).take s = vs := by
    rw [← hs]
    apply List.ext_getElem?
    intro j
    rw [List.getElem?_take, List.getElem?_take]
    split
    · rename_i hj
      rw [List.getElem?_drop, List.getElem?_drop, ← e5 j hj]
      simp [Nat.add_assoc]
    · rfl
  rw [e3] at hx
  simp [execOp, hx, Instr.loadAt, Instr.sureAddr, run_loadAgg hA h hcs hvl]
theorem qv_ldf {i : Int} {o : Nat} {u : Value} (hP : Plain P T) (hx : ev env x = fptr v i s o) (hv : SlS s V v n xs) (h0 : 0 ≤ i) (h1 : i < n) (ho : o < s) (hu : xs[i.toNat * s + o]? = some u) : QV P C ⟨dst, .load T x, t, pos, af, g⟩ env V σ u := qv_run fun w hm => by
  obtain ⟨b, off, cs, T', fz, c, e, _, e2, _, e4, e5⟩ := (hv.mono hm.view).at h0 h1
  rw [e4 o] at hx
  have hb : w.heap[b]? = some (.cells cs T' fz) := e2
  have hcell : w.cell? ⟨b, off + (i.toNat * s + o), none⟩ = some u := by
    unfold World.cell?
    simp only [hb]
    rw [← hu, ← e5 o ho]
    rfl
  simp [execOp, hx, Instr.loadAt, Instr.sureAddr, loadVar, run_plain hP, load, Sem.run, hcell]
/-- What one owns is given away for good. -/
theorem Gr.sls {E : TypeId} {m : Nat} {h : HV} (hg : Gr E s v m xs h) : SlS s h v m xs := by
  obtain ⟨hl, hg⟩ := hg
  rcases hg with ⟨rfl, rfl, _⟩ | ⟨gb, cap, cur, rfl, rfl, q1, q2, q3, q4⟩
  · have : xs = [] := List.eq_nil_of_length_eq_zero (by simpa using hl)
    subst this; exact SlS.nil
  · refine ⟨_, cap, rfl, q1, by simp only [maxLen] at q2; omega, hl, fun _ => ⟨gb, 0, cur, E, (0, 0), rfl, by simp [one], fun i hi => ?_⟩⟩
    rw [← q4, List.getElem?_take, if_pos hi]; simp
theorem vc_freezeS {c : Code} {σr : Res} (hp : σ.Perm (Gr E s v n xs :: σr)) (h : ∀ V', Sub V V' → SlS s V' v n xs → VC P C N c K Q env V' σr) : VC P C N c K Q env V σ := fun a w hf hm => by
  obtain ⟨x, hx, hd, m'⟩ := hm.freeze hp
  exact h _ (sub_plus_left _ _) (hx.sls.mono (sub_plus_right hd)) a w hf m'
theorem qv_nilck {b off : Nat} (hx : ev env x = .pointer (some ⟨b, off, none⟩)) : QV P C ⟨dst, .nilCheck x, t, pos, af, g⟩ env V σ (.pointer (some ⟨b, off, none⟩)) := qv_run fun w _ => by
  simp [execOp, hx]
theorem ops_gr1 {l : List Oper} {m : Nat} {E2 : TypeId} (hk : σ[k]? = some (Gr E2 s v m xs)) (h : v.oneCell' = true → Ops P C N ops K l env V σ) : Ops P C N ops K l env V σ := fun a w hf hm => by
  obtain ⟨hs, s1, _, _⟩ := hm.own
  obtain ⟨q, _, hg⟩ := s1.get hk
  obtain ⟨a', c, e, _⟩ := hg.shape
  exact h (by rw [e]; rfl) a w hf hm
end
end Go.Vc

namespace Go.Vc
open Go Go.RowKit
open Classical
theorem sameBits_ints (ks : List IntKind) : ∀ (x : List Int), ((zipV ks x).zip (zipV ks x)).all (fun (p : Value × Value) => Instr.sameBits 9999 p.1 p.2) = true := by
  intro x
  rw [List.all_eq_true]
  intro p hp
  obtain ⟨i, hi, e⟩ := List.getElem_of_mem hp
  rw [List.getElem_zip] at e
  subst e
  have hl : i < (zipV ks x).length := by simpa using hi
  have : ∃ k n, (zipV ks x)[i] = Value.int k n := by
    simp only [zipV, List.getElem_zipWith]
    exact ⟨_, _, rfl⟩
  obtain ⟨k, n, e⟩ := this
  simp only [e]
  rw [show (9999 : Nat) = 9998 + 1 from rfl]; simp [Instr.sameBits]
theorem sameBits_agg (ks : List IntKind) (x : List Int) : Instr.sameBits 10000 (.agg (zipV ks x).toArray) (.agg (zipV ks x).toArray) = true := by
  rw [show (10000 : Nat) = 9999 + 1 from rfl]
  simp only [Instr.sameBits, beq_self_eq_true, Bool.true_and]
  exact sameBits_ints ks x
theorem checkInt {P : Program} {e : TypeId} {k : IntKind} (he : P.underlying e = some (.int k)) (em : Bool) (n : Nat) (a : Int) (w : World) : (Instr.checkKey em (n + 1) e (.int k a)).run P w = .ok () w := by
  rw [Instr.checkKey]; simp [run_underlying he]
theorem checkFields {P : Program} (em : Bool) (w : World) : ∀ (fs : List Field) (ks : List IntKind) (off : Nat) (A as : List Value) (x : List Int), fieldInts P off fs ks → x.length = ks.length → as = A ++ zipV ks x → A.length = off →
    (forIn (m := Sem) fs PUnit.unit fun f _ => do
      if f.name ≠ "_" then do
        Instr.checkKey em 9999 f.type (← part f.type as.toArray f.offset)
        pure (ForInStep.yield PUnit.unit)
      else pure (ForInStep.yield PUnit.unit)).run P w = .ok PUnit.unit w
  | [], _, _, _, _, _, _, _, _, _ => by simp
  | f :: fs, k :: ks, off, A, as, x, h, h1, ha, hA => by
    obtain ⟨f1, f2, f3, f4⟩ := h
    cases x with
    | nil => simp at h1
    | cons p x =>
      have a1 : as.toArray[f.offset]? = some (.int k p) := by rw [ha, f2, ← hA]; simp [zipV]
      have ih := checkFields em w fs ks (off + 1) (A ++ [.int k p]) as x f4 (by simpa using h1) (by rw [ha]; simp [zipV]) (by simp [hA])
      simp only [List.forIn_cons, if_pos f1, Sem.run_bind, run_part_int f3 a1, Result.andThen_ok, checkInt f3 em 9998, Sem.run_pure]
      exact ih
  | _ :: _, [], _, _, _, _, h, _, _, _ => by cases h
theorem KeyT.flat {P : Program} {T : TypeId} {κ : Type} {ks : List IntKind} (hF : FlatInts P T ks) (as : κ → List Int) (hl : ∀ k, (as k).length = ks.length) (inj : ∀ a b, as a = as b → a = b) : KeyT P T (fun k => Value.agg (zipV ks (as k)).toArray) where
  check := fun em k w => by
    rw [show (10000 : Nat) = 9999 + 1 from rfl, Instr.checkKey]
    simp only [Sem.run_bind, run_underlying hF.und, Result.andThen_ok]
    rw [← Array.forIn_toList]
    have := checkFields em w (P.fieldsOf T).toList ks 0 [] (zipV ks (as k)) (as k) hF.flds (hl k) rfl rfl
    simp at this ⊢
    rw [this]; rfl
  eq := fun a b w => by
    have := run_eq_ints hF (as a) (as b) rfl rfl (hl a) (hl b) w
    have e : decide (as a = as b) = @decide (a = b) (propDecidable _) := decide_eq_decide.2 ⟨inj a b, fun h => by rw [h]⟩
    rw [← e]; exact this
  same := fun k => sameBits_agg ks (as k)
  desc := ⟨_, hF.und, fun a b => Or.inl rfl⟩
end Go.Vc

namespace Go.Vc
open Go Go.RowKit
open Classical
abbrev gb (L : List Bool) (i : Int) : Bool := L.getD i.toNat false
abbrev bvs (L : List Bool) : List Value := L.map Value.bool
def Bls (H : HV) (v : Value) (L : List Bool) : Prop := Sl H v (bvs L)
theorem Bls.mono {H H' : HV} {v : Value} {L : List Bool} (h : Bls H v L) (s : Sub H H') : Bls H' v L := Sl.mono h s
theorem Bls.bound {H : HV} {v : Value} {L : List Bool} (h : Bls H v L) : L.length ≤ 9223372036854775807 := by
  have := Sl.bound h; simpa using this
/-- A list of truth values that is being filled. -/
def fb (p : Nat → Bool) (n : Nat) : List Value := bvs ((List.range n).map p)
theorem Bls.nil {H : HV} : Bls H (.slice none 0 0) [] := ⟨none, 0, rfl, Nat.le_refl _, Nat.zero_le _, fun h => absurd rfl h⟩
theorem Bls.cells {H : HV} {v : Value} {L : List Bool} (h : Bls H v L) : v.cells = [v].toArray := by obtain ⟨_, _, h, _⟩ := h; rw [h]; rfl
theorem Bls.one {H : HV} {v : Value} {L : List Bool} (h : Bls H v L) : v.oneCell' = true := by obtain ⟨_, _, h, _⟩ := h; rw [h]; rfl
section
variable {P : Program} {C : Cx} {env : Env} {V : HV} {σ : Res} {T E t : TypeId} {x y : Operand} {dst : Option Nat} {pos : String} {af : Array Edge} {g : Option (Nat × Bool)} {v : Value} {k : IntKind} {L : List Bool}
end
section
variable {P : Program} {C : Cx} {env : Env} {V : HV} {σ : Res} {T E E2 t : TypeId} {x y : Operand} {dst : Option Nat} {pos : String} {af : Array Edge} {g : Option (Nat × Bool)} {v : Value} {k s m : Nat} {xs : List Value}
end
def dropS (v : Value) (lo : Nat) : Value := match v with | .slice (some a) n c => .slice (some (a.add lo)) (n - lo) (c - lo) | _ => v
theorem Sl.drop {H : HV} {v : Value} {vals : List Value} (h : Sl H v vals) {n : Nat} (hn : n < vals.length) : Sl H (dropS v n) (vals.drop n) := by
  obtain ⟨a, c, rfl, h1, h2, h3⟩ := h
  obtain ⟨b, off, cs, T, fz, e1, e2, e3⟩ := h3 (fun e => by subst e; simp at hn)
  subst e1
  refine ⟨some ⟨b, off + n, none⟩, c - n, by simp [dropS, add_none], by simp; omega, by omega, fun _ => ⟨b, off + n, cs, T, fz, rfl, e2, fun i hi => ?_⟩⟩
  rw [List.length_drop] at hi
  rw [List.getElem?_drop, ← e3 (n + i) (by omega), Nat.add_assoc]
theorem Bls.take {H : HV} {v : Value} {L : List Bool} (h : Bls H v L) {n : Nat} (hn : n ≤ L.length) : Bls H (takeS v n) (L.take n) := by
  have := Sl.take h (n := n) (by simpa using hn)
  rwa [← List.map_take] at this
theorem Bls.drop {H : HV} {v : Value} {L : List Bool} (h : Bls H v L) {n : Nat} (hn : n < L.length) : Bls H (dropS v n) (L.drop n) := by
  have := Sl.drop h (n := n) (by simpa using hn)
  rwa [← List.map_drop] at this
section
variable {P : Program} {C : Cx} {N : Nat} {ops : Array Oper} {K : K3} {rest : List Oper} {env : Env} {V : HV} {σ : Res} {T E t : TypeId} {x y z : Operand} {dst : Option Nat} {d : Nat} {pos : String} {af : Array Edge} {g : Option (Nat × Bool)} {v : Value}
end
section
variable {P : Program} {C : Cx} {N : Nat} {K : K3} {Q : Ex → K3} {env : Env} {V : HV} {σ : Res}
end
section
variable {P : Program} {C : Cx} {N : Nat} {ops : Array Oper} {K : K3} {l : List Oper} {env : Env} {V : HV} {σ : Res} {v : Value} {k s m : Nat} {E2 : TypeId} {xs : List Value}
end
end Go.Vc

namespace Go.Vc
open Go Go.RowKit
open Classical
section
variable {P : Program} {C : Cx} {env : Env} {V : HV} {σ : Res} {T t t2 : TypeId} {x y : Operand} {dst : Option Nat} {pos : String} {af : Array Edge} {g : Option (Nat × Bool)} {q : Prop} [i : Decidable q]
end
theorem ints_cells {H : HV} {b n c : Nat} {xs : List Int} {k : IntKind} (h : Cells H b (xs.map (Value.int k))) (hn : n = xs.length) (hc : n ≤ c) (hm : c ≤ 9223372036854775807) : Ints k H (.slice (some ⟨b, 0, none⟩) n c) xs := by
  obtain ⟨T, fz, h⟩ := h
  refine ⟨some ⟨b, 0, none⟩, c, by simp [hn], by simp; omega, hm, fun _ => ⟨b, 0, _, T, fz, rfl, h, fun i hi => ?_⟩⟩
  simp
theorem ext_gi {A B : List Int} (hl : A.length = B.length) (h : ∀ x : Int, 0 ≤ x → x < A.length → gi A x = gi B x) : A = B := by
  refine List.ext_getElem hl fun i h1 h2 => ?_
  have := h i (by omega) (by omega)
  simp only [gi, List.getD_eq_getElem?_getD, Int.toNat_natCast, List.getElem?_eq_getElem h1, List.getElem?_eq_getElem h2, Option.getD_some] at this
  exact this
end Go.Vc

namespace Go.Vc
open Go Go.RowKit
section
variable {P : Program} {C : Cx} {env : Env} {V : HV} {σ : Res} {x y z : Operand} {T E t : TypeId} {dst : Option Nat} {pos : String} {af : Array Edge} {g : Option (Nat × Bool)} {k n s : Nat} {xs : List Value} {u : Value}
theorem qv_call_gi {l : List Operand} {at_ : Array TypeId} {f : FuncId} {cap : Array Value} {args : List Value} {v : Value} (hk : σ[k]? = some (Gr E 1 u n xs)) (h : ∀ V1, Sub V V1 → Sl V1 u xs → FnC P f args V1 [] (fun v' _ _ => v' = v)) (hx : ev env x = .func (.func f) #[] cap) (ha : l.map (ev env) ++ cap.toList = args) :
    QV P C ⟨dst, .call { callee := .value x, args := l.toArray, argTypes := at_ }, t, pos, af, g⟩ env V σ v := fun w hm => by
  have hh := h (hv w) hm.view (inG hk w hm)
  rw [run_call hh.ok hx w, ha]
  refine ⟨rfl, (hh.run w [] trivial .nil (.refl _) (fun _ hh => by cases hh)).mono ?_⟩
  rintro e w' ⟨v', V', σ', rfl, hv', hm'⟩
  exact ⟨by rw [hv'], hm.ext hm'.ext_of_none, hm'.ext_of_none⟩
theorem qv_sliceHiS {kk : IntKind} {h : Int} {H : HV} {n2 : Nat} {v : Value} (hT : P.underlying T = some (.slice E)) (hS : SizeIs P E s) (hx : ev env x = v) (hv : SlS n2 H v n xs) (hy : ev env y = .int kk h) (h0 : 0 ≤ h) (h1 : h ≤ n) :
    QV P C ⟨dst, .slice T x none (some y) none, t, pos, af, g⟩ env V σ (takeS v h.toNat) := qv_run fun w _ => by
  obtain ⟨a, c, rfl, hc, _⟩ := hv
  have r := run_slice_hi (P := P) (a := a) (n := n) (c := c) (h := h.toNat) (kk := kk) hT hS (by omega) w
  rw [show ((h.toNat : Nat) : Int) = h by omega] at r
  simp [execOp, hx, hy, Instr.sliceAt, run_underlying hT, r, takeS]
theorem SlS.take {H : HV} {v : Value} (h : SlS s H v n xs) {m : Nat} (hm : m ≤ n) : SlS s H (takeS v m) m (xs.take (m * s)) := by
  obtain ⟨a, c, rfl, h1, h2, hl, h3⟩ := h
  have hms : m * s ≤ n * s := Nat.mul_le_mul_right s hm
  refine ⟨a, c, rfl, by omega, h2, by rw [List.length_take, hl]; omega, fun hne => ?_⟩
  obtain ⟨b, off, cs, T, fz, e1, e2, e3⟩ := h3 (by omega)
  refine ⟨b, off, cs, T, fz, e1, e2, fun i hi => ?_⟩
  rw [e3 i (by omega), List.getElem?_take, if_pos hi]
end
end Go.Vc

namespace Go.Vc
theorem pz {l l' : Res} (p : List Nat) (h : p.map (fun i => l.getD i (fun _ => True)) = l') (hp : p.isPerm (List.range l.length) = true) : l.Perm l' := perm_idx l l' p hp h
section
variable {P : Program} {C : Cx} {N : Nat} {K : K3} {Q : Ex → K3} {env : Env} {V : HV} {σ : Res}
/-- The ways through a piece of code that writes nothing meet. -/
theorem vc_j {c : Code} (S : List (Nat × Value)) (h : VC P C N c (fun e V' σ' => Has e S ∧ V = V' ∧ σ = σ') Q env V σ) (k : ∀ e, K (upds N S e) V σ) : VC P C N c K Q env V σ :=
  vc_mono h (fun e V' σ' ⟨hs, h1, h2⟩ => by subst h1 h2; have := k e; rwa [upds_eta hs] at this) (fun _ _ _ _ h => h)
end
theorem ja {p q r : Prop} (h : p) (i : q ↔ r) : q ↔ p ∧ r := ⟨fun x => ⟨h, i.1 x⟩, fun x => i.2 x.2⟩
theorem jo {p q r : Prop} (h : ¬ p) (i : q ↔ r) : q ↔ p ∨ r := ⟨fun x => .inr (i.1 x), fun x => i.2 (x.resolve_left h)⟩
theorem jb {p q : Prop} {i : Decidable p} {j : Decidable q} (h : p ↔ q) : Value.bool (@decide p i) = .bool (@decide q j) := congrArg Value.bool (decide_eq_decide.2 h)
theorem jt {q : Prop} {j : Decidable q} (h : q) : Value.bool true = .bool (@decide q j) := congrArg Value.bool (decide_eq_true h).symm
theorem jf {q : Prop} {j : Decidable q} (h : ¬ q) : Value.bool false = .bool (@decide q j) := congrArg Value.bool (decide_eq_false h).symm
theorem jdt {q : Prop} {j : Decidable q} (h : q) : Value.bool (@decide q j) = .bool true := congrArg Value.bool (decide_eq_true h)
theorem jdf {q : Prop} {j : Decidable q} (h : ¬ q) : Value.bool (@decide q j) = .bool false := congrArg Value.bool (decide_eq_false h)
end Go.Vc
