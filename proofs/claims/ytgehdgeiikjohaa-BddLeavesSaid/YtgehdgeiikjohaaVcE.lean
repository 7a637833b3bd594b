/- Operations that make or write memory, one at a time. No program in sight. -/
import Derived.Test.YtgehdgeiikjohaaVcT
import Derived.Laws.AppendOwn
import Derived.Laws.MakeOwn
namespace Go.Vc
open Go.RowKit

/-- What is known of a type: its zero value, its cells, its bytes. -/
def TI (P : Program) (E : TypeId) (z : Value) (s by_ : Nat) : Prop := (P.info? E).map (fun i => (i.zero, i.size, i.bytes)) = some (some z, s, by_)
theorem TI.out {P : Program} {E : TypeId} {z : Value} {s y : Nat} (h : TI P E z s y) : ∃ i, P.info? E = some i ∧ i.zero = some z ∧ i.size = s ∧ i.bytes = y := by
  unfold TI at h
  cases e : P.info? E with
  | none => rw [e] at h; cases h
  | some i => rw [e] at h; simp at h; exact ⟨i, rfl, h.1, h.2.1, h.2.2⟩
theorem TI.size {P : Program} {E : TypeId} {z : Value} {s y : Nat} (h : TI P E z s y) : SizeIs P E s := by
  obtain ⟨i, h1, _, h3, _⟩ := h.out
  unfold SizeIs; rw [h1]; simp [h3]

theorem perm_eraseIdx {α : Type} : ∀ {l : List α} {k : Nat} {a : α}, l[k]? = some a → l.Perm (a :: l.eraseIdx k) ∧ ∀ b, (l.set k b).Perm (b :: l.eraseIdx k)
  | [], _, _, h => by simp at h
  | x :: l, 0, a, h => by simp at h; subst h; exact ⟨.refl _, fun b => .refl _⟩
  | x :: l, k + 1, a, h => by
    obtain ⟨h1, h2⟩ := perm_eraseIdx (l := l) (k := k) (by simpa using h)
    exact ⟨(h1.cons x).trans (.swap _ _ _), fun b => ((h2 b).cons x).trans (.swap _ _ _)⟩

section
variable {P : Program} {C : Cx} {N : Nat} {K : K3} {Q : Ex → K3} {env : Env} {V : HV} {σ : Res} {ops : Array Oper} {rest : List Oper} {w : World}
variable {d k : Nat} {x y z : Operand} {t T T' E : TypeId} {pos : String} {af : Array Edge} {g : Option (Nat × Bool)} {v : Value} {op : Op}

/- unguarded and guarded operations -/
theorem oq (hq : QV P C ⟨some d, op, t, pos, af, none⟩ env V σ v) (h : Ops P C N ops K rest (upd N env d v) V σ) : Ops P C N ops K (⟨some d, op, t, pos, af, none⟩ :: rest) env V σ :=
  ops_q hq (wantedE_none rfl) h
theorem og (hq : QV P C ⟨some d, op, t, pos, af, g⟩ env V σ v) (hw : wantedE ⟨some d, op, t, pos, af, g⟩ ops env = true) (h : Ops P C N ops K rest (upd N env d v) V σ) : Ops P C N ops K (⟨some d, op, t, pos, af, g⟩ :: rest) env V σ :=
  ops_q hq hw h
theorem os (hw : wantedE ⟨some d, op, t, pos, af, g⟩ ops env = false) (h : Ops P C N ops K rest (upd N env d undef) V σ) : Ops P C N ops K (⟨some d, op, t, pos, af, g⟩ :: rest) env V σ :=
  ops_skip hw h
theorem qq {K : Env → Prop} (hq : QV P C ⟨some d, op, t, pos, af, none⟩ env V σ v) (h : Qops P C N ops V σ K rest (upd N env d v)) : Qops P C N ops V σ K (⟨some d, op, t, pos, af, none⟩ :: rest) env :=
  qops_q hq (wantedE_none rfl) h
theorem qg {K : Env → Prop} (hq : QV P C ⟨some d, op, t, pos, af, g⟩ env V σ v) (hw : wantedE ⟨some d, op, t, pos, af, g⟩ ops env = true) (h : Qops P C N ops V σ K rest (upd N env d v)) :
    Qops P C N ops V σ K (⟨some d, op, t, pos, af, g⟩ :: rest) env := qops_q hq hw h
theorem qs {K : Env → Prop} (hw : wantedE ⟨some d, op, t, pos, af, g⟩ ops env = false) (h : Qops P C N ops V σ K rest (upd N env d undef)) : Qops P C N ops V σ K (⟨some d, op, t, pos, af, g⟩ :: rest) env :=
  qops_skip hw h

/-- One owned piece turns; all else stays. -/
theorem Mem.upd {A A' : Asrt} {w' : World} (m : Mem C V σ w) (hk : σ[k]? = some A)
    (H : ∀ h, A h → Sub h (hv w) → Disj h V → Mem ⟨w, V, dom [h]⟩ V [A'] w') : Mem C V (σ.set k A') w' := by
  obtain ⟨p1, p2⟩ := perm_eraseIdx hk
  have m1 := m.perm p1
  obtain ⟨hs, h1, h2, h3⟩ := m1.own
  match hs, h1 with
  | h :: hs, h1 =>
    have := Mem.call (σa := [A]) (hsa := [h]) (hsr := hs) m1 ⟨h1.1, trivial⟩ h1.2 h2 h3 (H h h1.1 (h3 h (List.mem_cons_self ..)).1 (h3 h (List.mem_cons_self ..)).2.1)
    exact this.perm (p2 A').symm

theorem Mem.single {h h' : HV} {A' : Asrt} {w' : World} (os : w'.os = w.os) (tape : w'.tape = w.tape) (output : w'.output = w.output) (size : w.heap.size ≤ w'.heap.size)
    (frame : ∀ b, b < w.heap.size → h b = none → w'.heap[b]? = w.heap[b]?) (hV : Sub V (hv w)) (hd : Disj h V) (hs : Sub h' (hv w')) (hA : A' h') (hn : ∀ b, b < w.heap.size → h' b ≠ none → h b ≠ none) :
    Mem ⟨w, V, dom [h]⟩ V [A'] w' := by
  refine ⟨os, tape, output, size, fun b hb hD => frame b hb ?_, .refl _, fun b o hb => ?_, fun _ _ _ => rfl, [h'], ⟨hA, trivial⟩, List.pairwise_singleton _ _, fun x hx => ?_⟩
  · cases e : h b with
    | none => rfl
    | some o => exact absurd ⟨h, List.mem_singleton.2 rfl, by rw [e]; simp⟩ hD
  · have h1 := hV b o hb
    have h2 : h b = none := by rcases hd b with q | q; exact q; rw [hb] at q; cases q
    have := frame b (hv_lt h1) h2
    unfold hv at h1 ⊢; rw [this]; exact h1
  · rw [List.mem_singleton] at hx; subst hx
    refine ⟨hs, fun b => ?_, fun b hb hb' => ⟨h, List.mem_singleton.2 rfl, hn b hb hb'⟩⟩
    cases e : V b with
    | none => exact .inr rfl
    | some o =>
      left
      have h1 := hv_lt (hV b o e)
      cases e' : x b with
      | none => rfl
      | some o' =>
        have := hn b h1 (by rw [e']; simp)
        rcases hd b with q | q
        · exact absurd q this
        · rw [e] at q; cases q

/- a variable of one's own -/
theorem run_newRow (P : Program) (E : TypeId) (cs : Array Value) (w : World) : (newRow E cs).run P w = .ok ⟨w.heap.size, 0, none⟩ (w.alloc (.cells cs E)) := by
  simp [newRow, newObj, Sem.run]

theorem ops_box {cs : List Value} (hx : ev env x = v) (hc : v.cells = cs.toArray) (h : ∀ b, Ops P C N ops K rest (Go.Vc.upd N env d (.pointer (some ⟨b, 0, none⟩))) V (σ ++ [Arr T b cs])) :
    Ops P C N ops K (⟨some d, .box T x, t, pos, af, none⟩ :: rest) env V σ := fun a w hf hm => by
  refine wpList_plain rfl fun K' hK' => ?_
  unfold Oper.wp
  have e : (execOp (ev env) ⟨some d, .box T x, t, pos, af, none⟩).run P w = .ok (.value (.pointer (some ⟨w.heap.size, 0, none⟩))) (w.alloc (.cells cs.toArray T)) := by
    simp [execOp, hx, Instr.box, newVar, run_newRow, hc]
  rw [hf.eval, e]
  exact hK' _ _ (h w.heap.size _ _ (hf.put (some d) _) (hm.alloc _ _ rfl))

theorem ops_make {n : Int} {s y : Nat} {z0 : Value} (hT : P.underlying T = some (.slice E)) (hi : TI P E z0 s y) (hz : z0.cells = #[z0]) (hs : s = 1) {k1 k2 : IntKind} (hx : ev env x = .int k1 n) (hy : ev env z = .int k2 n)
    (h0 : 0 ≤ n) (h1 : n * y ≤ 281474976710656) (h2 : n ≤ 9223372036854775807)
    (h : ∀ b, Ops P C N ops K rest (Go.Vc.upd N env d (.slice (some ⟨b, 0, none⟩) n.toNat n.toNat)) V (σ ++ [Arr E b (List.replicate n.toNat z0)])) :
    Ops P C N ops K (⟨some d, .makeSlice T x z, t, pos, af, none⟩ :: rest) env V σ := fun a w hf hm => by
  refine wpList_plain rfl fun K' hK' => ?_
  unfold Oper.wp
  obtain ⟨i, i1, i2, i3, i4⟩ := hi.out
  have hmc : madeCells z0.cells n.toNat = (List.replicate n.toNat z0).toArray := by
    apply Array.ext
    · simp [madeCells]
    · intro j h1 h2
      simp [madeCells, hz, Nat.mod_one]
  have e := run_make (P := P) w T E i z0 hT i1 i2 k1 k2 n n h0 (Int.le_refl _) (by rw [i4, Int.mul_comm]; exact h1) h2
  rw [i3, hs, Nat.mul_one, hmc] at e
  have e' : (execOp (ev env) ⟨some d, .makeSlice T x z, t, pos, af, none⟩).run P w = .ok (.value (.slice (some ⟨w.heap.size, 0, none⟩) n.toNat n.toNat)) (w.alloc (.cells (List.replicate n.toNat z0).toArray E)) := by
    simp [execOp, hx, hy, e]
  rw [hf.eval, e']
  exact hK' _ _ (h w.heap.size _ _ (hf.put (some d) _) (hm.alloc _ _ rfl))

/-- make with a length of 0 and some capacity. -/
theorem ops_make0 {n : Int} {s y : Nat} {z0 : Value} (hT : P.underlying T = some (.slice E)) (hi : TI P E z0 s y) {k1 k2 : IntKind} (hx : ev env x = .int k1 0) (hy : ev env z = .int k2 n)
    (h0 : 0 ≤ n) (h1 : n * y ≤ 281474976710656) (h2 : n ≤ 9223372036854775807)
    (h : ∀ b cs, cs.size = n.toNat * s → Ops P C N ops K rest (Go.Vc.upd N env d (.slice (some ⟨b, 0, none⟩) 0 n.toNat)) V (σ ++ [Blk b (.cells cs E (0, 0))])) :
    Ops P C N ops K (⟨some d, .makeSlice T x z, t, pos, af, none⟩ :: rest) env V σ := fun a w hf hm => by
  refine wpList_plain rfl fun K' hK' => ?_
  unfold Oper.wp
  obtain ⟨i, i1, i2, i3, i4⟩ := hi.out
  have e := run_make (P := P) w T E i z0 hT i1 i2 k1 k2 0 n (Int.le_refl _) h0 (by rw [i4, Int.mul_comm]; exact h1) h2
  have e' : (execOp (ev env) ⟨some d, .makeSlice T x z, t, pos, af, none⟩).run P w = .ok (.value (.slice (some ⟨w.heap.size, 0, none⟩) 0 n.toNat)) (w.alloc (.cells (madeCells z0.cells (n.toNat * i.size)) E)) := by
    simp [execOp, hx, hy, e]
  rw [hf.eval, e']
  exact hK' _ _ (h w.heap.size _ (by rw [size_madeCells, i3]) _ _ (hf.put (some d) _) (hm.alloc _ _ rfl))

/- reading through a pointer -/
def Cells (H : HV) (b : Nat) (cs : List Value) : Prop := ∃ T fz, H b = some (.cells cs.toArray T fz)
theorem Cells.mono {H H' : HV} {b : Nat} {cs : List Value} (h : Cells H b cs) (s : Sub H H') : Cells H' b cs := by
  obtain ⟨T, fz, h⟩ := h; exact ⟨T, fz, s _ _ h⟩
theorem inVc {b : Nat} {cs : List Value} (h : Cells V b cs) : In C V σ (fun H => Cells H b cs) := fun _ m => h.mono m.view
theorem inOc {b : Nat} {cs : List Value} (hk : σ[k]? = some (Arr T b cs)) : In C V σ (fun H => Cells H b cs) := fun _ m => ⟨T, (0, 0), (m.blk hk).1⟩

theorem qv_ldp {dst : Option Nat} {b off : Nat} {cs : List Value} (hP : Plain P T) (hx : ev env x = .pointer (some ⟨b, off, none⟩)) (hv' : In C V σ (fun H => Cells H b cs)) (ho : cs[off]? = some v) :
    QV P C ⟨dst, .load T x, t, pos, af, g⟩ env V σ v := qv_run fun w hm => by
  obtain ⟨T', fz, h⟩ := hv' w hm
  have hc : w.cell? ⟨b, off, none⟩ = some v := by
    unfold hv at h
    simp [World.cell?, h, ho]
  simp [execOp, hx, Instr.loadAt, Instr.sureAddr, loadVar, run_plain hP, load, Sem.run, hc]

/- writing -/
theorem setCell_eq {w : World} {b off : Nat} {cs : List Value} {T : TypeId} {v : Value} (h : w.heap[b]? = some (.cells cs.toArray T (0, 0))) :
    w.setCell ⟨b, off, none⟩ v = { w with heap := w.heap.setIfInBounds b (.cells (cs.set off v).toArray T (0, 0)) } := by
  have hlt : b < w.heap.size := hv_lt (w := w) h
  have hb : w.heap[b] = .cells cs.toArray T (0, 0) := by rw [Array.getElem?_eq_getElem hlt] at h; exact Option.some.inj h
  unfold World.setCell
  congr 1
  apply Array.ext
  · simp
  · intro i h1 h2
    simp only [Array.getElem_modify]
    by_cases hi : b = i
    · subst hi; simp [hb]
    · rw [if_neg hi, Array.getElem_setIfInBounds_ne _ hi]

theorem run_storeVar_one {P : Program} {T : TypeId} {b off : Nat} {v : Value} {w : World} {cs : List Value} {E : TypeId} (hS : SizeIs P T 1) (hv1 : v.oneCell' = true) (hb : w.heap[b]? = some (.cells cs.toArray E (0, 0))) (ho : off < cs.length) :
    (storeVar T ⟨b, off, none⟩ v).run P w = .ok () { w with heap := w.heap.setIfInBounds b (.cells (cs.set off v).toArray E (0, 0)) } := by
  have hcs : v.cells = #[v] := by cases v <;> first | rfl | cases hv1
  have hcell : w.cell? ⟨b, off, none⟩ = some cs[off] := by simp [World.cell?, hb, ho]
  have hfr : w.frozen? ⟨b, off, none⟩ = false := by simp [World.frozen?, hb]
  rw [← setCell_eq hb]
  have hadd : (⟨b, off, none⟩ : Addr).add 0 = ⟨b, off, none⟩ := by simp [Addr.add]
  simp only [storeVar, Sem.run_bind, run_sizeOf hS, Result.andThen_ok, hcs]
  simp [storeCells, hadd, run_store P w _ v .plain hv1, hcell, hfr]

theorem ops_stp {b off : Nat} {cs : List Value} (hS : SizeIs P T 1) (hx : ev env x = .pointer (some ⟨b, off, none⟩)) (hy : ev env y = v) (hv1 : v.oneCell' = true) (hk : σ[k]? = some (Arr E b cs)) (ho : off < cs.length)
    (h : Ops P C N ops K rest env V (σ.set k (Arr E b (cs.set off v)))) : Ops P C N ops K (⟨none, .store T x y, t, pos, af, none⟩ :: rest) env V σ := fun a w hf hm => by
  refine wpList_plain rfl fun K' hK' => ?_
  unfold Oper.wp
  have hb := (hm.blk hk).1
  have e : (execOp (ev env) ⟨none, .store T x y, t, pos, af, none⟩).run P w = .ok .skip { w with heap := w.heap.setIfInBounds b (.cells (cs.set off v).toArray E (0, 0)) } := by
    simp [execOp, hx, hy, Instr.storeAt, Instr.sureAddr, run_storeVar_one hS hv1 hb ho]
  rw [hf.eval, e]
  exact hK' _ _ (h _ _ (hf.put none _) (hm.setBlk hk _ _ rfl))

theorem eptr_own (b n c : Nat) (i : Int) : eptr (.slice (some ⟨b, 0, none⟩) n c) i 1 = .pointer (some ⟨b, i.toNat, none⟩) := by
  simp only [eptr, Nat.mul_one, Addr.add]
  split
  · rename_i h; rw [h]
  · simp

theorem ops_ste {b n c : Nat} {i : Int} {cs : List Value} (hS : SizeIs P T 1) (hx : ev env x = eptr (.slice (some ⟨b, 0, none⟩) n c) i 1) (hy : ev env y = v) (hv1 : v.oneCell' = true) (hk : σ[k]? = some (Arr E b cs)) (h0 : 0 ≤ i)
    (ho : i < cs.length) (h : Ops P C N ops K rest env V (σ.set k (Arr E b (cs.set i.toNat v)))) : Ops P C N ops K (⟨none, .store T x y, t, pos, af, none⟩ :: rest) env V σ :=
  ops_stp hS (by rw [hx, eptr_own]) hy hv1 hk (by omega) h
end
end Go.Vc
