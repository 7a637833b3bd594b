/- Writing into a slice that may grow, parts of slices, copying. No program in sight. -/
import Derived.Test.YtgehdgeiikjohaaVcY
import Derived.Laws.CopyRow
namespace Go.Vc
open Go Go.RowKit
theorem allc {a : Value} {l : List Value} (h : a.oneCell' = true) (q : l.all (·.oneCell') = true) : (a :: l).all (·.oneCell') = true := by rw [List.all_cons, h, q]; rfl
theorem Sub.mono {f g h : HV} (a : Sub f g) (b : Sub g h) : Sub f h := a.trans b
section
variable {P : Program} {C : Cx} {N : Nat} {K : K3} {Q : Ex → K3} {env : Env} {V : HV} {σ : Res} {ops : Array Oper} {rest : List Oper} {w : World}
variable {d k b : Nat} {dst : Option Nat} {x y z : Operand} {t T T' T2 E : TypeId} {pos : String} {af : Array Edge} {g : Option (Nat × Bool)} {v : Value}

/-- An element of a slice that may grow is written. -/
theorem ops_stg {n : Nat} {i : Int} {u : Value} {xs : List Value} (hS : SizeIs P T 1) (hx : ev env x = eptr v i 1) (hy : ev env y = u) (hv1 : u.oneCell' = true) (hk : σ[k]? = some (Gr E 1 v n xs)) (h0 : 0 ≤ i) (h1 : i < xs.length)
    (h : Ops P C N ops K rest env V (σ.set k (Gr E 1 v n (xs.set i.toNat u)))) : Ops P C N ops K (⟨none, .store T x y, t, pos, af, none⟩ :: rest) env V σ := fun a w hf hm => by
  refine wpList_plain rfl fun K' hK' => ?_
  unfold Oper.wp
  obtain ⟨hs, s1, s2, s3⟩ := hm.own
  obtain ⟨hh, e, hl, hg⟩ := s1.get hk
  rcases hg with ⟨rfl, hn, _⟩ | ⟨gb, cap, cur, rfl, rfl, q1, q2, q3, q4⟩
  · omega
  · have hb : w.heap[gb]? = some (.cells cur E (0, 0)) := (s3 _ (List.mem_of_getElem? e)).1 gb _ (by simp [one])
    rw [Nat.mul_one] at hl q3 q4
    have hil : i.toNat < cur.toList.length := by rw [Array.length_toList]; omega
    have e1 : cur = cur.toList.toArray := by simp
    rw [e1] at hb
    rw [eptr_own] at hx
    have run : (execOp (ev env) ⟨none, .store T x y, t, pos, af, none⟩).run P w = .ok .skip { w with heap := w.heap.setIfInBounds gb (.cells (cur.toList.set i.toNat u).toArray E (0, 0)) } := by
      simp [execOp, hx, hy, Instr.storeAt, Instr.sureAddr, run_storeVar_one hS hv1 hb hil]
    rw [hf.eval, run]
    refine hK' _ _ (h _ _ (hf.put none _) (hm.upd hk fun q hq hqs hqd => ?_))
    have hqb : q gb ≠ none := by
      obtain ⟨_, hq⟩ := hq
      rcases hq with ⟨e, _⟩ | ⟨g2, _, _, e, rfl, _⟩
      · cases e
      · simp only [Value.slice.injEq, Option.some.injEq, Addr.mk.injEq] at e
        rw [e.1.1]; simp [one]
    refine Mem.single (h' := one gb (.cells (cur.toList.set i.toNat u).toArray E (0, 0))) rfl rfl rfl (by simp) (fun c hc hn => ?_) hm.view hqd (fun c o hc => ?_) ⟨by simp [hl], .inr ⟨gb, cap, _, rfl, rfl, q1, q2, by simp [q3], ?_⟩⟩ (fun c hc hn => ?_)
    · have hne : gb ≠ c := fun e => by subst e; exact hqb hn
      show (w.heap.setIfInBounds gb _)[c]? = _
      rw [Array.getElem?_setIfInBounds, if_neg hne]
    · unfold one at hc
      split at hc
      · rename_i e; subst e; cases hc
        show (w.heap.setIfInBounds c _)[c]? = _
        rw [Array.getElem?_setIfInBounds, if_pos rfl, if_pos (hv_lt (w := w) hb)]
      · cases hc
    · rw [Nat.mul_one]
      show (cur.toList.set i.toNat u).take n = xs.set i.toNat u
      rw [List.take_set, q4]
    · unfold one at hn
      split at hn
      · rename_i e; subst e; exact hqb
      · simp at hn
theorem inGi {n : Nat} {xs : List Int} {kk : IntKind} (hk : σ[k]? = some (Gr E 1 v n (xs.map (Value.int kk)))) : In C V σ (fun H => Ints kk H v xs) := inG hk
theorem Gr.len {n s : Nat} {xs : List Value} {h : HV} (hg : Gr E s v n xs h) : xs.length = n * s := hg.1

/- parts of slices -/
def takeS (v : Value) (h : Nat) : Value := match v with | .slice a _ c => .slice a h c | _ => v
theorem run_slice_hi {a : Option Addr} {n c h s : Nat} {kk : IntKind} (hT : P.underlying T = some (.slice E)) (hS : SizeIs P E s) (h1 : h ≤ c) (w : World) : (Instr.slice T (.slice a n c) none (some (.int kk h)) none).run P w = .ok (.slice a h c) w := by
  have e : (if c = 0 then a else Option.map (fun x => x.add 0) a) = a := by
    split
    · rfl
    · cases a with
      | none => rfl
      | some a => simp [Addr.add]
  simp [Instr.slice, run_underlying hT, Instr.sliceBounds, Instr.sliceBound, asIntOf, h1, run_sizeOf hS]
  cases a with
  | none => intro _; rfl
  | some a =>
    intro _
    obtain ⟨b, o, sp⟩ := a
    simp [Addr.add]
theorem qv_sliceHi {vals : List Value} {H : HV} {s : Nat} {kk : IntKind} {h : Int} (hT : P.underlying T = some (.slice E)) (hS : SizeIs P E s) (hx : ev env x = v) (hv : Sl H v vals) (hy : ev env y = .int kk h) (h0 : 0 ≤ h) (h1 : h ≤ vals.length) :
    QV P C ⟨dst, .slice T x none (some y) none, t, pos, af, g⟩ env V σ (takeS v h.toNat) := qv_run fun w _ => by
  obtain ⟨a, c, rfl, hc, _⟩ := hv
  have r := run_slice_hi (P := P) (a := a) (n := vals.length) (c := c) (h := h.toNat) (kk := kk) hT hS (by omega) w
  rw [show ((h.toNat : Nat) : Int) = h by omega] at r
  simp [execOp, hx, hy, Instr.sliceAt, run_underlying hT, r, takeS]
theorem Sl.take {H : HV} {v : Value} {vals : List Value} (h : Sl H v vals) {n : Nat} (hn : n ≤ vals.length) : Sl H (takeS v n) (vals.take n) := by
  obtain ⟨a, c, rfl, h1, h2, h3⟩ := h
  have hl : (vals.take n).length = n := by simp [hn]
  refine ⟨a, c, by simp [takeS, hl], by omega, h2, fun hne => ?_⟩
  obtain ⟨b, off, cs, T, fz, e1, e2, e3⟩ := h3 (fun e => hne (by simp [e]))
  refine ⟨b, off, cs, T, fz, e1, e2, fun i hi => ?_⟩
  rw [hl] at hi
  rw [e3 i (by omega), List.getElem?_take, if_pos hi]
theorem Ints.take {H : HV} {kk : IntKind} {v : Value} {xs : List Int} (h : Ints kk H v xs) {n : Nat} (hn : n ≤ xs.length) : Ints kk H (takeS v n) (xs.take n) := by
  have := Sl.take h (n := n) (by simpa using hn)
  rwa [← List.map_take] at this
/-- The part of a slice of one's own from lo on. -/
theorem qv_sliceLo {b n : Nat} {kk : IntKind} {lo : Int} (hT : P.underlying T = some (.slice E)) (hS : SizeIs P E 1) (hx : ev env x = .slice (some ⟨b, 0, none⟩) n n) (hy : ev env y = .int kk lo) (h0 : 0 ≤ lo) (h1 : lo < n) :
    QV P C ⟨dst, .slice T x (some y) none none, t, pos, af, g⟩ env V σ (.slice (some ⟨b, lo.toNat, none⟩) (n - lo.toNat) (n - lo.toNat)) := qv_run fun w _ => by
  obtain ⟨q, rfl⟩ : ∃ q : Nat, lo = q := ⟨lo.toNat, by omega⟩
  have h3 : (⟨b, 0, none⟩ : Addr).add q = ⟨b, q, none⟩ := by
    unfold Addr.add; split <;> simp_all
  have h6 : q ≤ n := by omega
  have h7 : ¬ n = q := by omega
  simp only [Int.toNat_natCast]
  simp [execOp, hx, hy, Instr.sliceAt, Instr.slice, run_underlying hT, Instr.sliceBounds, Instr.sliceBound, asIntOf, run_sizeOf hS, h3, h6, h7]
/-- Copying into a row of one's own. -/
theorem ops_copy {b o dl dc sl sc : Nat} {ad : Addr} {cs news : List Value} (hT : P.underlying T = some (.slice E)) (hS : SizeIs P E 1) (hx : ev env x = .slice (some ⟨b, o, none⟩) dl dc) (hy : ev env y = .slice (some ad) sl sc) (hk : σ[k]? = some (Arr T' b cs))
    (hn : news.length = Nat.min sl dl) (hsrc : ∀ w, Mem C V σ w → ∀ j u, news[j]? = some u → w.cell? (ad.add j) = some u) (hfit : o + news.length ≤ cs.length) (h1 : ∀ u ∈ news, u.oneCell' = true)
    (h : Ops P C N ops K rest (upd N env d (.int .i64 news.length)) V (σ.set k (Arr T' b (cs.take o ++ news ++ cs.drop (o + news.length))))) :
    Ops P C N ops K (⟨some d, .call { callee := .builtin .copy, args := #[x, y], argTypes := #[T, T2] }, t, pos, af, none⟩ :: rest) env V σ := fun a w hf hm => by
  refine wpList_plain rfl fun K' hK' => ?_
  unfold Oper.wp
  have hb := (hm.blk hk).1
  have r := run_copy_row (P := P) w T T2 t E b o dl dc ad sl sc cs.toArray T' news hT hS hb hn (hsrc w hm) (by simpa using hfit) h1
  have hb : w.heap[b]? = some (.cells cs.toArray T' (0, 0)) := hb
  have hrow : w.setRow b (cs.take o ++ news ++ cs.drop (o + news.length)).toArray = { w with heap := w.heap.setIfInBounds b (.cells (cs.take o ++ news ++ cs.drop (o + news.length)).toArray T' (0, 0)) } := by
    unfold World.setRow
    congr 1
    have hlt : b < w.heap.size := hv_lt (w := w) hb
    apply Array.ext
    · simp
    · intro i q1 q2
      simp only [Array.getElem_modify]
      by_cases hi : b = i
      · subst hi
        have : w.heap[b] = .cells cs.toArray T' (0, 0) := by rw [Array.getElem?_eq_getElem hlt] at hb; exact Option.some.inj hb
        simp [this]
      · rw [if_neg hi, Array.getElem_setIfInBounds_ne _ hi]
  have e : (execOp (ev env) ⟨some d, .call { callee := .builtin .copy, args := #[x, y], argTypes := #[T, T2] }, t, pos, af, none⟩).run P w = .ok (.value (.int .i64 news.length)) { w with heap := w.heap.setIfInBounds b (.cells (cs.take o ++ news ++ cs.drop (o + news.length)).toArray T' (0, 0)) } := by
    rw [← hrow]
    simp only [execOp, resolve, invoke, builtin, Sem.run_bind, Sem.run_pure, Result.andThen_ok, List.map_toArray, List.map_cons, List.map_nil, hx, hy, r]
    rfl
  rw [hf.eval, e]
  exact hK' _ _ (h _ _ (hf.put (some d) _) (hm.setBlk hk _ _ rfl))
theorem ops_perm {l : List Oper} {σ' : Res} (hp : σ.Perm σ') (h : Ops P C N ops K l env V σ') : Ops P C N ops K l env V σ := fun a w hf hm => h a w hf (hm.perm hp)
theorem vc_perm {c : Code} {σ' : Res} (hp : σ.Perm σ') (h : VC P C N c K Q env V σ') : VC P C N c K Q env V σ := fun a w hf hm => h a w hf (hm.perm hp)
theorem qv_lenG {vals : List Value} {at_ : TypeId} (hT : P.underlying at_ = some (.slice E)) (hx : ev env x = v) (hv : In C V σ (fun H => Sl H v vals)) : QV P C ⟨dst, .call { callee := .builtin .len, args := #[x], argTypes := #[at_] }, t, pos, af, g⟩ env V σ (.int .i64 vals.length) := fun w hm =>
  qv_lenS (H := Go.Vc.hv w) hT hx (hv w hm) w hm
theorem qv_lenGi {xs : List Int} {kk : IntKind} {at_ : TypeId} (hT : P.underlying at_ = some (.slice E)) (hx : ev env x = v) (hv : In C V σ (fun H => Ints kk H v xs)) : QV P C ⟨dst, .call { callee := .builtin .len, args := #[x], argTypes := #[at_] }, t, pos, af, g⟩ env V σ (.int .i64 xs.length) := by
  have := qv_lenG (dst := dst) (t := t) (pos := pos) (af := af) (g := g) hT hx (vals := xs.map (Value.int kk)) hv
  rwa [List.length_map] at this
end
end Go.Vc
