/- Structs and arrays of several cells: loading, storing, building, comparing, returning. No program in sight. -/
import Derived.Test.YtgehdgeiikjohaaVcN
import Derived.Laws.StructEq
import Derived.Laws.CopyRow
import Derived.Laws.Cells
import Derived.Laws.Tables
namespace Go.Vc
open Go Go.RowKit

/-- A struct or an array of s cells. -/
def AggIs (P : Program) (T : TypeId) (s : Nat) : Prop := (∃ d, P.underlying T = some d ∧ ((∃ f, d = .struct f) ∨ ∃ n e, d = .array n e)) ∧ SizeIs P T s
theorem AggIs.struct {P : Program} {T : TypeId} {s : Nat} {f : Array Field} (h : P.underlying T = some (.struct f)) (hs : SizeIs P T s) : AggIs P T s := ⟨⟨_, h, Or.inl ⟨_, rfl⟩⟩, hs⟩
theorem AggIs.array {P : Program} {T : TypeId} {s n : Nat} {e : TypeId} (h : P.underlying T = some (.array n e)) (hs : SizeIs P T s) : AggIs P T s := ⟨⟨_, h, Or.inr ⟨_, _, rfl⟩⟩, hs⟩
theorem run_agg {P : Program} {T : TypeId} {s : Nat} (h : AggIs P T s) (w : World) : (isAgg T).run P w = .ok true w := by
  obtain ⟨⟨d, h1, h2⟩, _⟩ := h
  rcases h2 with ⟨f, rfl⟩ | ⟨n, e, rfl⟩ <;> simp [isAgg, run_underlying h1]

/- building -/
def fillL (pl : List (Nat × Nat)) : List Value → List (Nat × List Value) → Option (List Value)
  | cs, [] => some cs
  | cs, (i, v) :: r => match pl[i]? with
    | none => none
    | some (off, s) => if v.length = s ∧ off + v.length ≤ cs.length then fillL pl (cs.take off ++ v ++ cs.drop (off + v.length)) r else none
theorem set_seg (cs : List Value) : ∀ (v : List Value) (off : Nat), off + v.length ≤ cs.length → cs.take off ++ v ++ cs.drop (off + v.length) = (v.zipIdx.foldl (fun l (c, j) => l.set (off + j) c) cs) := by
  suffices h : ∀ (v : List Value) (k off : Nat) (cs : List Value), off + k + v.length ≤ cs.length → (v.zipIdx k).foldl (fun l (c, j) => l.set (off + j) c) cs = cs.take (off + k) ++ v ++ cs.drop (off + k + v.length) by
    intro v off hl; have := h v 0 off cs (by omega); simpa using this.symm
  intro v
  induction v with
  | nil => intro k off cs h; simp
  | cons x v ih =>
    intro k off cs h
    simp only [List.length_cons] at h
    simp only [List.zipIdx_cons, List.foldl_cons]
    rw [ih (k + 1) off _ (by simp; omega)]
    have e1 : (cs.set (off + k) x).take (off + (k + 1)) = cs.take (off + k) ++ [x] := by
      rw [show off + (k + 1) = (off + k) + 1 by omega, List.take_add_one, List.take_set_of_le (by omega), List.getElem?_set_self (by omega)]; rfl
    have e2 : (cs.set (off + k) x).drop (off + (k + 1) + v.length) = cs.drop (off + k + (x :: v).length) := by
      rw [List.drop_set_of_lt (by omega)]; simp only [List.length_cons]; congr 1; omega
    rw [e1, e2]; simp
theorem fold_toArray (off : Nat) : ∀ (v : List (Value × Nat)) (cs : List Value), v.foldl (fun (a : Array Value) (x : Value × Nat) => a.setIfInBounds (off + x.2) x.1) cs.toArray = (v.foldl (fun l (x : Value × Nat) => l.set (off + x.2) x.1) cs).toArray
  | [], _ => rfl
  | x :: v, cs => by simp only [List.foldl_cons]; rw [← fold_toArray off v]; congr 1; simp
theorem fill_eq {place : Nat → Option (Nat × Nat)} {pl : List (Nat × Nat)} (hp : ∀ i x, pl[i]? = some x → place i = some x) : ∀ (parts : List (Nat × Value)) (pv : List (Nat × List Value)) (cs out : List Value),
    parts.map (fun x => (x.1, x.2.cells)) = pv.map (fun x => (x.1, x.2.toArray)) → fillL pl cs pv = some out → Instr.fill place cs.toArray parts = some out.toArray
  | [], [], cs, out, _, h => by simp only [fillL, Option.some.injEq] at h; subst h; rfl
  | [], _ :: _, _, _, h, _ => by simp at h
  | _ :: _, [], _, _, h, _ => by simp at h
  | (i, v) :: r, (j, l) :: q, cs, out, h, h2 => by
    simp only [List.map_cons, List.cons.injEq, Prod.mk.injEq] at h
    obtain ⟨⟨rfl, hv⟩, hr⟩ := h
    simp only [fillL] at h2
    cases e : pl[i]? with
    | none => rw [e] at h2; cases h2
    | some x =>
      obtain ⟨off, s⟩ := x
      rw [e] at h2
      simp only at h2
      split at h2
      · rename_i hc
        have := fill_eq hp r q _ out hr h2
        simp only [Instr.fill, hp i _ e, hv, List.size_toArray]
        rw [if_neg (by have := hc.2; simp [hc.1] at this ⊢; omega)]
        rw [← this, set_seg cs l off hc.2, ← fold_toArray, ← Array.foldl_toList, Array.toList_zipIdx]
      · cases h2
/-- The places of a type's parts, and its zero cells. -/
def BuildIs (P : Program) (t : TypeId) (pl : List (Nat × Nat)) (z : List Value) : Prop :=
  ∀ parts pv out, parts.map (fun (x : Nat × Value) => (x.1, x.2.cells)) = pv.map (fun (x : Nat × List Value) => (x.1, x.2.toArray)) → fillL pl z pv = some out → P.built t parts = some out.toArray
theorem BuildIs.struct {P : Program} {t : TypeId} {fs : Array Field} {z0 : Value} {s y : Nat} {z : List Value} {pl : List (Nat × Nat)} (hu : P.underlying t = some (.struct fs)) (hi : TI P t z0 s y) (hz : z0.cells = z.toArray)
    (hp : fs.toList.mapM (fun f => (P.info? f.type).map fun i => (f.offset, i.size)) = some pl) : BuildIs P t pl z := fun parts pv out h1 h2 => by
  obtain ⟨i, i1, i2, i3, i4⟩ := hi.out
  unfold Program.built
  simp only [i1, hu, i2, hp, hz]
  exact fill_eq (fun j x hx => by simpa using hx) parts pv z out h1 h2
theorem BuildIs.array {P : Program} {t e : TypeId} {n : Nat} {z0 ze : Value} {s y se ye : Nat} {z : List Value} (hu : P.underlying t = some (.array n e)) (hi : TI P t z0 s y) (hz : z0.cells = z.toArray) (he : TI P e ze se ye) :
    BuildIs P t ((List.range n).map fun i => (i * se, se)) z := fun parts pv out h1 h2 => by
  obtain ⟨i, i1, i2, i3, i4⟩ := hi.out
  obtain ⟨j, j1, j2, j3, j4⟩ := he.out
  unfold Program.built
  simp only [i1, hu, i2, j1, hz, j3]
  refine fill_eq (fun k x hx => ?_) parts pv z out h1 h2
  simp only [List.getElem?_map, Option.map_eq_some_iff, List.getElem?_eq_some_iff, List.getElem_range] at hx
  obtain ⟨a, ⟨_, rfl⟩, rfl⟩ := hx
  rfl

/- comparing -/
def fieldInts (P : Program) : Nat → List Field → List IntKind → Prop
  | _, [], [] => True
  | off, f :: fs, k :: ks => f.name ≠ "_" ∧ f.offset = off ∧ P.underlying f.type = some (.int k) ∧ fieldInts P (off + 1) fs ks
  | _, _, _ => False
def fieldIntsB (P : Program) : Nat → List Field → List IntKind → Bool
  | _, [], [] => true
  | off, f :: fs, k :: ks => f.name != "_" && Nat.beq f.offset off && (match P.underlying f.type with | some (.int k') => decide (k' = k) | _ => false) && fieldIntsB P (off + 1) fs ks
  | _, _, _ => false
theorem fieldIntsB_ok {P : Program} : ∀ {off : Nat} {fs : List Field} {ks : List IntKind}, fieldIntsB P off fs ks = true → fieldInts P off fs ks
  | _, [], [], _ => trivial
  | off, f :: fs, k :: ks, h => by
    simp only [fieldIntsB, Bool.and_eq_true] at h
    obtain ⟨⟨⟨h1, h2⟩, h3⟩, h4⟩ := h
    refine ⟨by simpa using h1, Nat.eq_of_beq_eq_true h2, ?_, fieldIntsB_ok h4⟩
    split at h3
    · rename_i k' e; rw [e, of_decide_eq_true h3]
    · cases h3
  | _, [], _ :: _, h => by cases h
  | _, _ :: _, [], h => by cases h
structure FlatInts (P : Program) (t : TypeId) (ks : List IntKind) : Prop where
  und : P.underlying t = some (.struct (P.fieldsOf t))
  stood : P.stoodInHeld t = false
  guard : P.eqGuardType P.depth t = false
  flds : fieldInts P 0 (P.fieldsOf t).toList ks
def zipV (ks : List IntKind) (as : List Int) : List Value := List.zipWith Value.int ks as
theorem run_part_int {P : Program} {e : TypeId} {k : IntKind} (he : P.underlying e = some (.int k)) {xs : Array Value} {off : Nat} {v : Value} (hx : xs[off]? = some v) (w : World) : (part e xs off).run P w = .ok v w := by
  have : (isAgg e).run P w = .ok false w := by simp [isAgg, run_underlying he]
  simp [part, this, hx]
theorem eqFields_ints {P : Program} (d : Nat) (w : World) : ∀ (fs : List Field) (ks : List IntKind) (off : Nat) (A B as bs : List Value) (x y : List Int), fieldInts P off fs ks → x.length = ks.length → y.length = ks.length →
    as = A ++ zipV ks x → bs = B ++ zipV ks y → A.length = off → B.length = off → (Op.eqFields (d + 1) as.toArray bs.toArray fs).run P w = .ok (decide (x = y)) w
  | [], [], _, _, _, _, _, x, y, _, h1, h2, _, _, _, _ => by
    have : x = [] := List.eq_nil_of_length_eq_zero h1
    have : y = [] := List.eq_nil_of_length_eq_zero h2
    subst_vars; simp [Op.eqFields]
  | f :: fs, k :: ks, off, A, B, as, bs, x, y, h, h1, h2, ha, hb, hA, hB => by
    obtain ⟨f1, f2, f3, f4⟩ := h
    cases x with
    | nil => simp at h1
    | cons p x =>
      cases y with
      | nil => simp at h2
      | cons q y =>
        have a1 : as.toArray[f.offset]? = some (.int k p) := by rw [ha, f2, ← hA]; simp [zipV]
        have b1 : bs.toArray[f.offset]? = some (.int k q) := by rw [hb, f2, ← hB]; simp [zipV]
        simp only [Op.eqFields]
        rw [if_pos f1]
        simp only [Sem.run_bind, run_part_int f3 a1, run_part_int f3 b1, Result.andThen_ok, run_equalIn_int w d f.type k k p q f3]
        by_cases hpq : p = q
        · subst hpq
          simp only [beq_self_eq_true, Bool.not_true, Bool.false_eq_true, if_false]
          rw [eqFields_ints d w fs ks (off + 1) (A ++ [.int k p]) (B ++ [.int k p]) as bs x y f4 (by simpa using h1) (by simpa using h2) (by rw [ha]; simp [zipV]) (by rw [hb]; simp [zipV]) (by simp [hA]) (by simp [hB])]
          simp
        · have : (p == q) = false := by simpa using hpq
          simp [this, hpq]
  | [], _ :: _, _, _, _, _, _, _, _, h, _, _, _, _, _, _ => by cases h
  | _ :: _, [], _, _, _, _, _, _, _, h, _, _, _, _, _, _ => by cases h

section
variable {P : Program} {C : Cx} {N : Nat} {K : K3} {Q : Ex → K3} {env : Env} {V : HV} {σ : Res} {ops : Array Oper} {rest : List Oper} {Φ : Value → HV → Res → Prop}
variable {dst : Option Nat} {k : Nat} {x y : Operand} {t T E : TypeId} {pos : String} {af : Array Edge} {g : Option (Nat × Bool)} {v : Value}

theorem run_loadAgg {P : Program} {T : TypeId} {b off s : Nat} {cs vs : List Value} {w : World} {T' : TypeId} {fz : Nat × Nat} (hA : AggIs P T s) (h : w.heap[b]? = some (.cells cs.toArray T' fz)) (hs : (cs.drop off).take s = vs) (hl : vs.length = s) :
    (loadVar T ⟨b, off, none⟩).run P w = .ok (.agg vs.toArray) w := by
  have hc : ∀ j v, vs[j]? = some v → w.cell? ((⟨b, off, none⟩ : Addr).add j) = some v := fun j v hj => by
    have hadd : (⟨b, off, none⟩ : Addr).add j = ⟨b, off + j, none⟩ := by unfold Addr.add; split <;> simp_all
    rw [hadd]
    have : cs[off + j]? = some v := by
      rw [← hs, List.getElem?_take] at hj
      split at hj
      · rwa [List.getElem?_drop] at hj
      · cases hj
    simp [World.cell?, h, this]
  have := run_loadCells_list (P := P) w ⟨b, off, none⟩ vs hc
  rw [hl] at this
  simp [loadVar, run_agg hA, run_sizeOf hA.2, this]

theorem qv_ldm {b off s : Nat} {cs vs : List Value} (hA : AggIs P T s) (hx : ev env x = .pointer (some ⟨b, off, none⟩)) (hv' : In C V σ (fun H => Cells H b cs)) (hs : (cs.drop off).take s = vs) (hl : vs.length = s) :
    QV P C ⟨dst, .load T x, t, pos, af, g⟩ env V σ (.agg vs.toArray) := qv_run fun w hm => by
  obtain ⟨T', fz, h⟩ := hv' w hm
  have h : w.heap[b]? = some (.cells cs.toArray T' fz) := h
  simp [execOp, hx, Instr.loadAt, Instr.sureAddr, run_loadAgg hA h hs hl]

theorem ops_stm {b off s : Nat} {cs vs cs' : List Value} (hS : SizeIs P T s) (hx : ev env x = .pointer (some ⟨b, off, none⟩)) (hy : ev env y = v) (hv : v.cells = vs.toArray) (hl : vs.length = s) (h1 : vs.all (·.oneCell') = true) (hk : σ[k]? = some (Arr E b cs))
    (ho : off + vs.length ≤ cs.length) (hc : cs.take off ++ vs ++ cs.drop (off + vs.length) = cs')
    (h : Ops P C N ops K rest env V (σ.set k (Arr E b cs'))) : Ops P C N ops K (⟨none, .store T x y, t, pos, af, none⟩ :: rest) env V σ := fun a w hf hm => by
  refine wpList_plain rfl fun K' hK' => ?_
  unfold Oper.wp
  have hb := (hm.blk hk).1
  have hb : w.heap[b]? = some (.cells cs.toArray E (0, 0)) := hb
  have hst := run_storeCells_at P b off E vs 0 cs.toArray w hb (by simpa using ho) (fun v hv => by simpa using List.all_eq_true.1 h1 v hv)
  have hrow : w.setRow b cs'.toArray = { w with heap := w.heap.setIfInBounds b (.cells cs'.toArray E (0, 0)) } := by
    unfold World.setRow
    congr 1
    have hlt : b < w.heap.size := hv_lt (w := w) hb
    apply Array.ext
    · simp
    · intro i q1 q2
      simp only [Array.getElem_modify]
      by_cases hi : b = i
      · subst hi
        have : w.heap[b] = .cells cs.toArray E (0, 0) := by rw [Array.getElem?_eq_getElem hlt] at hb; exact Option.some.inj hb
        simp [this]
      · rw [if_neg hi, Array.getElem_setIfInBounds_ne _ hi]
  have e : (execOp (ev env) ⟨none, .store T x y, t, pos, af, none⟩).run P w = .ok .skip { w with heap := w.heap.setIfInBounds b (.cells cs'.toArray E (0, 0)) } := by
    rw [← hrow, ← hc]
    simp only [Nat.add_zero] at hst
    simp [execOp, hx, hy, Instr.storeAt, Instr.sureAddr, storeVar, run_sizeOf hS, hv, hl, hst]
  rw [hf.eval, e]
  exact hK' _ _ (h _ _ (hf.put none _) (hm.setBlk hk _ _ rfl))

/-- a whole variable written -/
theorem ops_stw {b s : Nat} {cs vs : List Value} (hS : SizeIs P T s) (hx : ev env x = .pointer (some ⟨b, 0, none⟩)) (hy : ev env y = .agg vs.toArray) (hl : vs.length = s) (h1 : vs.all (·.oneCell') = true) (hk : σ[k]? = some (Arr E b cs)) (hc : cs.length = vs.length)
    (h : Ops P C N ops K rest env V (σ.set k (Arr E b vs))) : Ops P C N ops K (⟨none, .store T x y, t, pos, af, none⟩ :: rest) env V σ :=
  ops_stm (off := 0) hS hx hy rfl hl h1 hk (by omega) (by simp [← hc]) h
theorem qv_build {pl : List (Nat × Nat)} {z out : List Value} {parts : List (Nat × Operand)} (hB : BuildIs P t pl z) (pv : List (Nat × List Value)) (hp : parts.map (fun x => (x.1, (ev env x.2).cells)) = pv.map (fun x => (x.1, x.2.toArray))) (ho : fillL pl z pv = some out) :
    QV P C ⟨dst, .build t parts.toArray, T, pos, af, g⟩ env V σ (.agg out.toArray) := qv_run fun w _ => by
  have := run_build w t (parts.map fun x => (x.1, ev env x.2)).toArray out.toArray (hB _ pv out (by simpa [Function.comp_def] using hp) ho)
  simp only [execOp]
  have e : (parts.toArray.map fun (x : Nat × Operand) => (x.1, ev env x.2)) = (parts.map fun x => (x.1, ev env x.2)).toArray := by simp
  rw [show (Array.map (fun (i, x) => (i, ev env x)) parts.toArray) = (parts.map fun x => (x.1, ev env x.2)).toArray from e]
  simp [this]

theorem run_eq_ints {ks : List IntKind} (hF : FlatInts P T ks) {as bs : List Value} (a b : List Int) (ha : as = zipV ks a) (hb : bs = zipV ks b) (h1 : a.length = ks.length) (h2 : b.length = ks.length) (w : World) :
    (Op.equalIn 10000 T (.agg as.toArray) (.agg bs.toArray)).run P w = .ok (decide (a = b)) w := by
  rw [show (10000 : Nat) = 9998 + 1 + 1 by rfl, run_equalIn_struct w (9998 + 1) T as.toArray bs.toArray hF.und hF.stood]
  exact eqFields_ints 9998 w _ ks 0 [] [] as bs a b hF.flds h1 h2 (by simpa using ha) (by simpa using hb) rfl rfl
theorem qv_eqls {ks : List IntKind} {as bs : List Value} {p : Prop} [i : Decidable p] {t2 : TypeId} (hF : FlatInts P T ks) (a b : List Int) (hx : ev env x = .agg as.toArray) (hy : ev env y = .agg bs.toArray) (ha : as = zipV ks a) (hb : bs = zipV ks b) (h1 : a.length = ks.length) (h2 : b.length = ks.length) (hp : a = b ↔ p) :
    QV P C ⟨dst, .binOp .eql T x y t2, t, pos, af, g⟩ env V σ (.bool (decide p)) := qv_run fun w _ => by
  have e : decide (a = b) = decide p := decide_eq_decide.2 hp
  simp [execOp, hx, hy, run_eqGuard_agg w .eql T x y _ _ hF.guard, run_eql_struct, run_eq_ints hF a b ha hb h1 h2, e]
theorem qv_neqs {ks : List IntKind} {as bs : List Value} {p : Prop} [i : Decidable (¬ p)] {t2 : TypeId} (hF : FlatInts P T ks) (a b : List Int) (hx : ev env x = .agg as.toArray) (hy : ev env y = .agg bs.toArray) (ha : as = zipV ks a) (hb : bs = zipV ks b) (h1 : a.length = ks.length) (h2 : b.length = ks.length) (hp : a = b ↔ p) :
    QV P C ⟨dst, .binOp .neq T x y t2, t, pos, af, g⟩ env V σ (.bool (@decide (¬ p) i)) := qv_run fun w _ => by
  have e : (!decide (a = b)) = decide (¬ p) := by
    by_cases h : a = b
    · have := hp.1 h; simp [h, this]
    · have : ¬ p := fun q => h (hp.2 q)
      simp [h, this]
  simp [execOp, hx, hy, run_eqGuard_agg w .neq T x y _ _ hF.guard, run_neq_struct, run_eq_ints hF a b ha hb h1 h2, e]
theorem aggc {as bs : List Value} (h : as = bs) : Value.agg as.toArray = Value.agg bs.toArray := by rw [h]
theorem consc {a b : Value} {as bs : List Value} (h : a = b) (h2 : as = bs) : a :: as = b :: bs := by rw [h, h2]
theorem tup2 {a b c d : Value} (h1 : a = c) (h2 : b = d) : Value.tuple #[a, b] = Value.tuple #[c, d] := by rw [h1, h2]
theorem tup3 {a b e c d f : Value} (h1 : a = c) (h2 : b = d) (h3 : e = f) : Value.tuple #[a, b, e] = Value.tuple #[c, d, f] := by rw [h1, h2, h3]
theorem idx_ints {k : IntKind} {xs : List Int} {i : Int} (h0 : 0 ≤ i) (h1 : i < xs.length) : (xs.map (Value.int k))[i.toNat]? = some (.int k (gi xs i)) := by
  have hlt : i.toNat < xs.length := by omega
  simp [gi, List.getElem?_eq_getElem hlt]
theorem eq3 {a b c d e f : Int} : [a, b, c] = [d, e, f] ↔ (a = d ∧ b = e ∧ c = f) := by simp
theorem eq2 {a b d e : Int} : [a, b] = [d, e] ↔ (a = d ∧ b = e) := by simp

theorem qv_iffb {p q : Prop} {ip : Decidable p} {iq : Decidable q} [i : Decidable (p ↔ q)] {t2 : TypeId} (hT : P.underlying T = some .bool) (hx : ev env x = .bool (@decide p ip)) (hy : ev env y = .bool (@decide q iq)) :
    QV P C ⟨dst, .binOp .eql T x y t2, t, pos, af, g⟩ env V σ (.bool (decide (p ↔ q))) := qv_run fun w _ => by
  have e : (decide p == decide q) = decide (p ↔ q) := by by_cases h : p <;> by_cases h' : q <;> simp [h, h']
  rw [← e]; simp [execOp, hx, hy, eqGuard, binOp, run_equal_bool hT]
theorem qv_niffb {p q : Prop} {ip : Decidable p} {iq : Decidable q} [i : Decidable (¬ (p ↔ q))] {t2 : TypeId} (hT : P.underlying T = some .bool) (hx : ev env x = .bool (@decide p ip)) (hy : ev env y = .bool (@decide q iq)) :
    QV P C ⟨dst, .binOp .neq T x y t2, t, pos, af, g⟩ env V σ (.bool (decide (¬ (p ↔ q)))) := qv_run fun w _ => by
  have e : (!(decide p == decide q)) = decide (¬ (p ↔ q)) := by by_cases h : p <;> by_cases h' : q <;> simp [h, h']
  rw [← e]; simp [execOp, hx, hy, eqGuard, binOp, run_equal_bool hT]
/-- An element of an array's value. -/
theorem qv_idx {n : Nat} {cs : List Value} {i : Int} {kk : IntKind} (hu : P.underlying T = some (.array n E)) (hP : Plain P E) (hS : SizeIs P E 1) (hx : ev env x = .agg cs.toArray) (hy : ev env y = .int kk i) (h0 : 0 ≤ i) (h1 : i < n) (hc : cs[i.toNat]? = some v) :
    QV P C ⟨dst, .index T x y, t, pos, af, g⟩ env V σ v := qv_run fun w _ => by
  have : (part E cs.toArray i.toNat).run P w = .ok v w := by simp [part, run_plain hP, hc]
  simp only [execOp, hx, hy, Instr.index, asIntOf]
  simp [run_underlying hu, run_sizeOf hS, h0, h1, this]

theorem perm_idx (l l' : Res) (p : List Nat) (hp : p.isPerm (List.range l.length) = true) (h : p.map (fun i => l.getD i (fun _ => True)) = l') : l.Perm l' := by
  have h1 : (List.range l.length).map (fun i => l.getD i (fun _ => True)) = l := by
    apply List.ext_getElem
    · simp
    · intro i h1 h2
      simp at h1
      simp [List.getD_eq_getElem?_getD, List.getElem?_eq_getElem h1]
  have h2 := (List.isPerm_iff.1 hp).map (fun i => l.getD i (fun _ => True))
  rw [h1, h] at h2
  exact h2.symm
/-- What is owned, written out. -/
theorem vc_res {c : Code} {σ' : Res} (h : σ = σ') (k : VC P C N c K Q env V σ') : VC P C N c K Q env V σ := h ▸ k
/- results -/
def resV (env : Env) : ResultVar → Sem Value
  | .tmp t => pure (env t)
  | .cell a t => do loadVar t (← asAddr (env a))
theorem resultsE_eq (rs : Array ResultVar) (env : Env) : resultsE rs env = (do let vs ← rs.mapM (resV env); pure (if h : vs.size = 1 then vs[0] else .tuple vs)) := by
  unfold resultsE resV; rfl
def RV (P : Program) (C : Cx) (env : Env) (V : HV) (σ : Res) (r : ResultVar) (v : Value) : Prop := ∀ w, Mem C V σ w → (resV env r).run P w = .ok v w
theorem rv_t {t : Nat} (e : env t = v) : RV P C env V σ (.tmp t) v := fun w _ => by simp [resV, e]
theorem rv_c {a b off s : Nat} {cs vs : List Value} (hA : AggIs P T s) (hx : env a = .pointer (some ⟨b, off, none⟩)) (hv' : In C V σ (fun H => Cells H b cs)) (hs : (cs.drop off).take s = vs) (hl : vs.length = s) : RV P C env V σ (.cell a T) (.agg vs.toArray) := fun w hm => by
  obtain ⟨T', fz, h⟩ := hv' w hm
  have h : w.heap[b]? = some (.cells cs.toArray T' fz) := h
  simp [resV, hx, asAddr, run_loadAgg hA h hs hl]
theorem rv_p {a b off : Nat} {cs : List Value} (hP : Plain P T) (hx : env a = .pointer (some ⟨b, off, none⟩)) (hv' : In C V σ (fun H => Cells H b cs)) (ho : cs[off]? = some v) : RV P C env V σ (.cell a T) v := fun w hm => by
  obtain ⟨T', fz, h⟩ := hv' w hm
  have hc : w.cell? ⟨b, off, none⟩ = some v := by
    unfold hv at h
    simp [World.cell?, h, ho]
  simp [resV, hx, asAddr, loadVar, run_plain hP, load, Sem.run, hc]
theorem rs1 {r : ResultVar} (v : Value) (e : RV P C env V σ r v) (h : Φ v V σ) : RetQ P C #[r] Φ .ret env V σ := ⟨_, fun w hm => by simp [resultsE_eq, e w hm], h⟩
theorem rs2 {r1 r2 : ResultVar} (v1 v2 : Value) (e1 : RV P C env V σ r1 v1) (e2 : RV P C env V σ r2 v2) (h : Φ (.tuple #[v1, v2]) V σ) : RetQ P C #[r1, r2] Φ .ret env V σ :=
  ⟨_, fun w hm => by simp [resultsE_eq, e1 w hm, e2 w hm], h⟩
theorem rs3 {r1 r2 r3 : ResultVar} (v1 v2 v3 : Value) (e1 : RV P C env V σ r1 v1) (e2 : RV P C env V σ r2 v2) (e3 : RV P C env V σ r3 v3) (h : Φ (.tuple #[v1, v2, v3]) V σ) : RetQ P C #[r1, r2, r3] Φ .ret env V σ :=
  ⟨_, fun w hm => by simp [resultsE_eq, e1 w hm, e2 w hm, e3 w hm], h⟩
end
end Go.Vc
