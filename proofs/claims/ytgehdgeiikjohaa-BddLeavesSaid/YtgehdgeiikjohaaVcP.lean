/- Maps that one owns: making, looking up, writing. No program in sight. -/
import Derived.Test.YtgehdgeiikjohaaVcY
import Derived.ChangeKeysEq
import Derived.MapKept
namespace Go.Vc
open Go Go.RowKit
open Classical

/-- A type of keys: how the program's values of it stand for κ. -/
structure KeyT (P : Program) (T : TypeId) {κ : Type} (enc : κ → Value) : Prop where
  check : ∀ (e : Bool) (k : κ) (w : World), (Instr.checkKey e 10000 T (enc k)).run P w = .ok () w
  eq : ∀ (a b : κ) (w : World), (Op.equal T (enc a) (enc b)).run P w = .ok (decide (a = b)) w
  same : ∀ k, Instr.sameBits 10000 (enc k) (enc k) = true
  desc : ∃ d, P.underlying T = some d ∧ ∀ a b, Instr.sameNow d (enc a) (enc b) = none ∨ Instr.sameNow d (enc a) (enc b) = some (decide (a = b))

section
variable {P : Program} {T : TypeId} {κ α : Type} {ek : κ → Value}
/-- The value of a key in a list. -/
noncomputable def lk (k : κ) : List (κ × α) → Option α
  | [] => none
  | p :: r => if p.1 = k then some p.2 else lk k r
noncomputable def fnd (k : κ) : List κ → List MapEntry → Nat → Option (Nat × Value)
  | q :: qs, e :: es, i => if k = q then some (i, e.val) else fnd k qs es (i + 1)
  | _, _, _ => none
theorem findAsking_run (hK : KeyT P T ek) (k : κ) (w : World) : ∀ (es : List MapEntry) (qs : List κ) (i : Nat), es.map (·.key) = qs.map ek → (Instr.findAsking T (ek k) es i).run P w = .ok (fnd k qs es i) w
  | [], qs, i, h => by
    have : qs = [] := by cases qs with | nil => rfl | cons _ _ => simp at h
    subst this; simp [Instr.findAsking, fnd]
  | e :: es, qs, i, h => by
    match qs, h with
    | [], h => simp at h
    | q :: qs, h =>
      simp only [List.map_cons, List.cons.injEq] at h
      have ih := findAsking_run hK k w es qs (i + 1) h.2
      simp only [Instr.findAsking, Sem.run_bind, h.1, hK.eq, Result.andThen_ok, fnd]
      by_cases hq : k = q
      · simp [hq]
      · simp [hq, ih]
theorem findNow_run {d : TypeDesc} (hd : ∀ a b, Instr.sameNow d (ek a) (ek b) = none ∨ Instr.sameNow d (ek a) (ek b) = some (decide (a = b))) (k : κ) : ∀ (es : List MapEntry) (qs : List κ) (i : Nat), es.map (·.key) = qs.map ek →
    Instr.findNow d (ek k) es i = none ∨ Instr.findNow d (ek k) es i = some (fnd k qs es i)
  | [], qs, i, h => by
    have : qs = [] := by cases qs with | nil => rfl | cons _ _ => simp at h
    subst this; exact Or.inr rfl
  | e :: es, qs, i, h => by
    match qs, h with
    | [], h => simp at h
    | q :: qs, h =>
      simp only [List.map_cons, List.cons.injEq] at h
      have ih := findNow_run hd k es qs (i + 1) h.2
      simp only [Instr.findNow, h.1, fnd]
      rcases hd k q with e1 | e1
      · rw [e1]; exact Or.inl rfl
      · rw [e1]
        by_cases hq : k = q
        · simp [hq]
        · simpa [hq] using ih
theorem findKey_run (hK : KeyT P T ek) (k : κ) (es : List MapEntry) (qs : List κ) (w : World) (h : es.map (·.key) = qs.map ek) : (Instr.findKey T (ek k) es).run P w = .ok (fnd k qs es 0) w := by
  obtain ⟨d, hu, hd⟩ := hK.desc
  simp only [Instr.findKey, Sem.run_bind, run_underlying hu, Result.andThen_ok]
  rcases findNow_run hd k es qs 0 h with e | e
  · rw [e]; exact findAsking_run hK k w es qs 0 h
  · rw [e]; rfl
theorem fnd_lk {vl : α → Value} (k : κ) : ∀ (kv : List (κ × α)) (es : List MapEntry) (i : Nat), es.map (·.val) = kv.map (fun p => vl p.2) → (fnd k (kv.map Prod.fst) es i).map Prod.snd = (lk k kv).map vl
  | [], es, i, _ => by
    cases es <;> rfl
  | p :: kv, es, i, h => by
    match es, h with
    | [], h => simp at h
    | e :: es, h =>
      simp only [List.map_cons, List.cons.injEq] at h
      have ih := fnd_lk k kv es (i + 1) h.2
      simp only [List.map_cons, fnd, lk]
      by_cases hq : k = p.1
      · rw [if_pos hq, if_pos hq.symm]; simp [h.1]
      · rw [if_neg hq, if_neg (fun e => hq e.symm)]; exact ih
theorem fnd_none {k : κ} : ∀ (qs : List κ) (es : List MapEntry) (i : Nat), es.length = qs.length → fnd k qs es i = none → k ∉ qs
  | [], _, _, _, _ => by simp
  | q :: qs, es, i, hl, h => by
    match es, hl with
    | e :: es, hl =>
      simp only [fnd] at h
      by_cases hq : k = q
      · rw [if_pos hq] at h; cases h
      · rw [if_neg hq] at h
        have := fnd_none qs es (i + 1) (by simpa using hl) h
        simp [hq, this]
theorem fnd_some {k : κ} : ∀ (qs : List κ) (es : List MapEntry) (i j : Nat) (v : Value), fnd k qs es i = some (j, v) → i ≤ j ∧ qs[j - i]? = some k
  | [], es, i, j, v, h => by cases es <;> simp [fnd] at h
  | q :: qs, [], i, j, v, h => by simp [fnd] at h
  | q :: qs, e :: es, i, j, v, h => by
    simp only [fnd] at h
    by_cases hq : k = q
    · rw [if_pos hq] at h; simp at h; subst hq; obtain ⟨rfl, _⟩ := h; simp
    · rw [if_neg hq] at h
      have := fnd_some qs es (i + 1) j v h
      refine ⟨by omega, ?_⟩
      rw [show j - i = (j - (i + 1)) + 1 by omega]; simpa using this.2
theorem lk_append {k : κ} {kv : List (κ × α)} {a : κ} {x : α} (h : a ∉ kv.map Prod.fst) : lk k (kv ++ [(a, x)]) = if k = a then some x else lk k kv := by
  induction kv with
  | nil =>
    simp only [List.nil_append, lk]
    by_cases e : k = a
    · rw [if_pos e, if_pos e.symm]
    · rw [if_neg e, if_neg (fun q => e q.symm)]
  | cons p kv ih =>
    simp only [List.map_cons, List.mem_cons, not_or] at h
    simp only [List.cons_append, lk, ih h.2]
    by_cases e : p.1 = k
    · rw [if_pos e, if_pos e]
      by_cases e2 : k = a
      · exact absurd (e2.symm.trans e.symm) h.1
      · rw [if_neg e2]
    · rw [if_neg e, if_neg e]
theorem lk_set {k : κ} {x : α} : ∀ {kv : List (κ × α)} {j : Nat} {a : κ}, (kv.map Prod.fst).Nodup → (kv.map Prod.fst)[j]? = some a → lk k (kv.modify j fun p => (p.1, x)) = if k = a then some x else lk k kv
  | [], j, a, _, h => by simp at h
  | p :: kv, 0, a, hn, h => by
    simp only [List.map_cons, List.getElem?_cons_zero, Option.some.injEq] at h
    subst h
    simp only [List.modify_zero_cons, lk]
    by_cases e : k = p.1
    · rw [if_pos e.symm, if_pos e]
    · rw [if_neg (fun q => e q.symm), if_neg e, if_neg (fun q => e q.symm)]
  | p :: kv, j + 1, a, hn, h => by
    simp only [List.map_cons, List.nodup_cons, List.getElem?_cons_succ] at hn h
    have ih := lk_set (k := k) (x := x) hn.2 h
    simp only [List.modify_succ_cons, lk, ih]
    have ha : a ∈ kv.map Prod.fst := List.mem_of_getElem? h
    by_cases e : p.1 = k
    · rw [if_pos e, if_pos e, if_neg (fun q => hn.1 (by rw [e, q]; exact ha))]
    · rw [if_neg e, if_neg e]
end

/-- A map of one's own: it gives what f gives. -/
def Mf {κ α : Type} (b : Nat) (ek : κ → Value) (vl : α → Value) (f : κ → Option α) : Asrt := fun h =>
  ∃ (es : Array MapEntry) (kv : List (κ × α)), h = one b (.map es es.size) ∧ es.toList.map (·.key) = kv.map (fun p => ek p.1) ∧ es.toList.map (·.val) = kv.map (fun p => vl p.2) ∧
    es.toList.map (·.born) = List.range es.size ∧ (kv.map Prod.fst).Nodup ∧ ∀ k, lk k kv = f k
noncomputable def setF {κ α : Type} (f : κ → Option α) (k : κ) (v : α) : κ → Option α := fun q => if q = k then some v else f q
theorem setF_same {κ α : Type} {f : κ → Option α} {k : κ} {v : α} : setF f k v k = some v := if_pos rfl
theorem setF_other {κ α : Type} {f : κ → Option α} {k q : κ} {v : α} (h : q ≠ k) : setF f k v q = f q := if_neg h

section
variable {P : Program} {C : Cx} {N : Nat} {K : K3} {Q : Ex → K3} {env : Env} {V : HV} {σ : Res} {ops : Array Oper} {rest : List Oper} {w : World}
variable {d k b : Nat} {dst : Option Nat} {x y z : Operand} {t T T' E KT : TypeId} {pos : String} {af : Array Edge} {g : Option (Nat × Bool)} {κ α : Type} {ek : κ → Value} {vl : α → Value} {f : κ → Option α} {key : κ} {a0 a1 : α}

theorem Mem.mf (m : Mem C V σ w) (hk : σ[k]? = some (Mf b ek vl f)) : ∃ (es : Array MapEntry) (kv : List (κ × α)), w.heap[b]? = some (.map es es.size) ∧ es.toList.map (·.key) = kv.map (fun p => ek p.1) ∧ es.toList.map (·.val) = kv.map (fun p => vl p.2) ∧
    es.toList.map (·.born) = List.range es.size ∧ (kv.map Prod.fst).Nodup ∧ ∀ k, lk k kv = f k := by
  obtain ⟨hs, h1, h2, h3⟩ := m.own
  obtain ⟨h, e, es, kv, rfl, q⟩ := h1.get hk
  exact ⟨es, kv, (h3 _ (List.mem_of_getElem? e)).1 b _ (by simp [one]), q⟩

theorem run_zeroVal {s yy : Nat} {z0 : Value} (hi : TI P E z0 s yy) (w : World) : (zeroValue E).run P w = .ok z0 w := by
  obtain ⟨i, i1, i2, i3, i4⟩ := hi.out
  simp [zeroValue, typeInfo, i1, i2]

theorem run_look {s yy : Nat} (m : Mem C V σ w) (hT : P.underlying T = some (.map KT E)) (hK : KeyT P KT ek) (hz : TI P E (vl a0) s yy) (hk : σ[k]? = some (Mf b ek vl f)) (ok : Bool) :
    (Instr.lookup T (.map (some b)) (ek key) ok).run P w = .ok (if ok then .tuple #[vl ((f key).getD a0), .bool (decide ((f key).isSome = true))] else vl ((f key).getD a0)) w := by
  obtain ⟨es, kv, hb, h1, h2, h3, h4, h5⟩ := m.mf hk
  have e1 := findKey_run hK key es.toList (kv.map Prod.fst) w (by rw [h1, List.map_map]; rfl)
  have e2 := fnd_lk (vl := vl) key kv es.toList 0 h2
  rw [h5] at e2
  simp only [Instr.lookup, Sem.run_bind, run_underlying hT, Result.andThen_ok, MapKept.run_getObj_map hb, hK.check, Sem.run_pure, e1]
  cases hf : fnd key (kv.map Prod.fst) es.toList 0 with
  | none =>
    rw [hf] at e2
    have : f key = none := by cases hq : f key with | none => rfl | some v => rw [hq] at e2; simp at e2
    simp [run_zeroVal hz, this]
  | some p =>
    rw [hf] at e2
    cases hq : f key with
    | none => rw [hq] at e2; simp at e2
    | some v =>
      rw [hq] at e2
      have : p.2 = vl v := by simpa using e2
      simp [this]

theorem qv_look {s yy : Nat} (hT : P.underlying T = some (.map KT E)) (hK : KeyT P KT ek) (hz : TI P E (vl a0) s yy) (hk : σ[k]? = some (Mf b ek vl f)) (hx : ev env x = .map (some b)) (hy : ev env y = ek key) :
    QV P C ⟨dst, .lookup T x y true, t, pos, af, g⟩ env V σ (.tuple #[vl ((f key).getD a0), .bool (decide ((f key).isSome = true))]) := qv_run fun w hm => by
  have := run_look (key := key) hm hT hK hz hk true
  simp [execOp, hx, hy, this]
theorem qv_look1 {s yy : Nat} (hT : P.underlying T = some (.map KT E)) (hK : KeyT P KT ek) (hz : TI P E (vl a0) s yy) (hk : σ[k]? = some (Mf b ek vl f)) (hx : ev env x = .map (some b)) (hy : ev env y = ek key) :
    QV P C ⟨dst, .lookup T x y false, t, pos, af, g⟩ env V σ (vl ((f key).getD a0)) := qv_run fun w hm => by
  have := run_look (key := key) hm hT hK hz hk false
  simp [execOp, hx, hy, this]

/-- A new map. -/
theorem Mem.mkmap (m : Mem C V σ w) (ek : κ → Value) (vl : α → Value) (w' : World) (hw : w' = { w with heap := w.heap.push (.map #[] 0) }) : Mem C V (σ ++ [Mf w.heap.size ek vl fun _ => none]) w' := by
  have m1 := m.alloc (.map #[] 0) w' hw
  obtain ⟨hs, h1, h2, h3⟩ := m1.own
  refine ⟨m1.os, m1.tape, m1.output, m1.size, m1.frame, m1.sub, m1.view, m1.vold, hs, ?_, h2, h3⟩
  obtain ⟨p, q, rfl, s1, s2⟩ := h1.split
  match q, s2 with
  | [h], s2 => exact s1.append ⟨⟨#[], [], s2.1, rfl, rfl, rfl, List.nodup_nil, fun _ => rfl⟩, trivial⟩
theorem ops_mkmap0 (ek : κ → Value) (vl : α → Value) (h : ∀ b, Ops P C N ops K rest (Go.Vc.upd N env d (.map (some b))) V (σ ++ [Mf b ek vl fun _ => none])) :
    Ops P C N ops K (⟨some d, .makeMap T none, t, pos, af, none⟩ :: rest) env V σ := fun a w hf hm => by
  refine wpList_plain rfl fun K' hK' => ?_
  unfold Oper.wp
  have e : (execOp (ev env) ⟨some d, .makeMap T none, t, pos, af, none⟩).run P w = .ok (.value (.map (some w.heap.size))) { w with heap := w.heap.push (.map #[] 0) } := by
    simp [execOp, Instr.makeMap, newObj, Sem.run]
  rw [hf.eval, e]
  exact hK' _ _ (h w.heap.size _ _ (hf.put (some d) _) (hm.mkmap ek vl _ rfl))
theorem ops_mkmap (ek : κ → Value) (vl : α → Value) {kk : IntKind} {n : Int} (hT : P.underlying T = some (.map KT E)) (hx : ev env x = .int kk n) (h : ∀ b, Ops P C N ops K rest (Go.Vc.upd N env d (.map (some b))) V (σ ++ [Mf b ek vl fun _ => none])) :
    Ops P C N ops K (⟨some d, .makeMap T (some x), t, pos, af, none⟩ :: rest) env V σ := fun a w hf hm => by
  refine wpList_plain rfl fun K' hK' => ?_
  unfold Oper.wp
  have e : (execOp (ev env) ⟨some d, .makeMap T (some x), t, pos, af, none⟩).run P w = .ok (.value (.map (some w.heap.size))) { w with heap := w.heap.push (.map #[] 0) } := by
    simp [execOp, Instr.makeMap, newObj, Sem.run, hx, run_underlying hT, asInt, asIntOf]
  rw [hf.eval, e]
  exact hK' _ _ (h w.heap.size _ _ (hf.put (some d) _) (hm.mkmap ek vl _ rfl))

/-- A key is laid, anew or once more. -/
theorem Mem.setMf {es' : Array MapEntry} (m : Mem C V σ w) (hk : σ[k]? = some (Mf b ek vl f)) (w' : World) (hw : w' = { w with heap := w.heap.setIfInBounds b (.map es' es'.size) }) (kv' : List (κ × α))
    (q1 : es'.toList.map (·.key) = kv'.map (fun p => ek p.1)) (q2 : es'.toList.map (·.val) = kv'.map (fun p => vl p.2)) (q3 : es'.toList.map (·.born) = List.range es'.size) (q4 : (kv'.map Prod.fst).Nodup) (f' : κ → Option α) (q5 : ∀ k, lk k kv' = f' k) :
    Mem C V (σ.set k (Mf b ek vl f')) w' := by
  refine m.upd hk fun h hA hs hd => ?_
  obtain ⟨es0, kv0, rfl, _⟩ := hA
  have hb : hv w b = some (.map es0 es0.size) := hs b _ (by simp [one])
  have hlt := hv_lt hb
  subst hw
  refine Mem.single (h' := one b (.map es' es'.size)) rfl rfl rfl (by simp) (fun c hc hn => ?_) (fun c o hc => ?_) hd (fun c o hc => ?_) ⟨es', kv', rfl, q1, q2, q3, q4, q5⟩ (fun c hc hn => ?_)
  · have hne : c ≠ b := fun e => by subst e; simp [one] at hn
    show (w.heap.setIfInBounds b _)[c]? = _
    rw [Array.getElem?_setIfInBounds, if_neg (fun e => hne e.symm)]
  · exact m.view c o hc
  · unfold one at hc
    split at hc
    · rename_i e; subst e; cases hc
      show (w.heap.setIfInBounds c _)[c]? = _
      rw [Array.getElem?_setIfInBounds, if_pos rfl, if_pos hlt]
    · cases hc
  · unfold one at hn ⊢
    split at hn
    · rename_i e; rw [if_pos e]; simp
    · simp at hn
theorem run_mapUpdate {v : α} (m : Mem C V σ w) (hT : P.underlying T = some (.map KT E)) (hK : KeyT P KT ek) (hk : σ[k]? = some (Mf b ek vl f)) :
    ∃ w', (Instr.mapUpdate T (.map (some b)) (ek key) (vl v)).run P w = .ok () w' ∧ Mem C V (σ.set k (Mf b ek vl (setF f key v))) w' := by
  obtain ⟨es, kv, hb, h1, h2, h3, h4, h5⟩ := m.mf hk
  have hl : es.toList.length = kv.length := by have := congrArg List.length h1; simpa using this
  have e1 := findKey_run hK key es.toList (kv.map Prod.fst) w (by rw [h1, List.map_map]; rfl)
  simp only [Instr.mapUpdate, Sem.run_bind, run_underlying hT, Result.andThen_ok, MapKept.run_getObj_map hb, hK.check, e1]
  cases hf : fnd key (kv.map Prod.fst) es.toList 0 with
  | none =>
    have hn := fnd_none _ _ _ (by simp [hl]) hf
    refine ⟨_, MapKept.run_setObj_map _ hb, ?_⟩
    have := m.setMf (es' := es.push { key := ek key, val := vl v, born := es.size }) hk _ (by simp; rfl) (kv ++ [(key, v)]) (by simp [h1]) (by simp [h2]) (by simp [h3, List.range_succ]) (by
      rw [List.map_append, List.nodup_append]
      refine ⟨h4, by simp, ?_⟩
      intro a ha b hb
      simp only [List.map_cons, List.map_nil, List.mem_singleton] at hb
      subst hb; rintro rfl; exact hn ha) (setF f key v) (fun q => by rw [lk_append hn, h5]; rfl)
    exact this
  | some p =>
    obtain ⟨j, u⟩ := p
    obtain ⟨_, hj⟩ := fnd_some _ _ _ _ _ hf
    rw [Nat.sub_zero] at hj
    have hjl : j < es.size := by
      have := (List.getElem?_eq_some_iff.1 hj).1
      have e : es.toList.length = es.size := Array.length_toList
      simp at this; omega
    have hkey : es[j].key = ek key := by
      have := congrArg (fun l => l[j]?) h1
      simp only [List.getElem?_map, Array.getElem?_toList] at this
      rw [List.getElem?_map] at hj
      cases hkj : kv[j]? with
      | none => rw [hkj] at hj; cases hj
      | some p =>
        rw [hkj] at hj this
        simp at hj
        rw [Array.getElem?_eq_getElem hjl] at this
        simp at this
        rw [this, hj]
    have hstay : (Instr.keyThatStays (((es[j]?).map (·.key)).getD (ek key)) (ek key)).run P w = .ok (ek key) w := by
      rw [Array.getElem?_eq_getElem hjl]
      simp [hkey, Instr.keyThatStays, hK.same]
    simp only [Sem.run_bind, hstay, Result.andThen_ok]
    refine ⟨_, MapKept.run_setObj_map _ hb, ?_⟩
    have hmod : ∀ {β : Type} (F : MapEntry → β) (g' : MapEntry → MapEntry), ((es.modify j g').toList.map F) = (es.toList.map F).modify j (fun x => if h : j < es.size then F (g' es[j]) else x) := fun F g' => by
      apply List.ext_getElem?
      intro i
      simp only [List.getElem?_map, Array.getElem?_toList, List.getElem?_modify, Array.getElem?_modify]
      by_cases hij : j = i
      · subst hij; simp [hjl]
      · simp [hij]
    have := m.setMf (es' := es.modify j fun e => { e with key := ek key, val := vl v }) hk _ (by simp; rfl) (kv.modify j fun p => (p.1, v)) (by
        rw [hmod, h1]
        apply List.ext_getElem?
        intro i
        simp only [List.getElem?_modify, List.getElem?_map]
        by_cases hij : j = i
        · subst hij
          rw [List.getElem?_map] at hj
          cases hkj : kv[j]? with
          | none => simp
          | some p => rw [hkj] at hj; simp at hj; simp [hjl, hj]
        · simp [hij]) (by
        rw [hmod, h2]
        apply List.ext_getElem?
        intro i
        simp only [List.getElem?_modify, List.getElem?_map]
        by_cases hij : j = i
        · subst hij; cases hkj : kv[j]? <;> simp [hjl]
        · simp [hij]) (by
        rw [hmod, h3]
        apply List.ext_getElem?
        intro i
        simp only [List.getElem?_modify, Array.size_modify]
        by_cases hij : j = i
        · subst hij
          have := congrArg (fun l => l[j]?) h3
          simp only [List.getElem?_map, Array.getElem?_toList, Array.getElem?_eq_getElem hjl] at this
          simp [hjl] at this ⊢
          exact this
        · simp [hij]) (by
        have e : (kv.modify j fun p => (p.1, v)).map Prod.fst = kv.map Prod.fst := by
          apply List.ext_getElem?
          intro i
          simp only [List.getElem?_modify, List.getElem?_map]
          by_cases hij : j = i
          · subst hij; cases hkj : kv[j]? <;> simp
          · simp [hij]
        rw [e]; exact h4) (setF f key v) (fun q => by rw [lk_set h4 hj, h5]; rfl)
    exact this
theorem ops_mapset {v : α} (hT : P.underlying T = some (.map KT E)) (hK : KeyT P KT ek) (hx : ev env x = .map (some b)) (hy : ev env y = ek key) (hz : ev env z = vl v) (hk : σ[k]? = some (Mf b ek vl f))
    (h : Ops P C N ops K rest env V (σ.set k (Mf b ek vl (setF f key v)))) : Ops P C N ops K (⟨none, .mapUpdate T x y z, t, pos, af, none⟩ :: rest) env V σ := fun a w hf hm => by
  refine wpList_plain rfl fun K' hK' => ?_
  unfold Oper.wp
  obtain ⟨w', e, hm'⟩ := run_mapUpdate (key := key) (v := v) hm hT hK hk
  have e' : (execOp (ev env) ⟨none, .mapUpdate T x y z, t, pos, af, none⟩).run P w = .ok .skip w' := by
    simp [execOp, hx, hy, hz, e]
  rw [hf.eval, e']
  exact hK' _ _ (h _ _ (hf.put none _) hm')

/- kinds of keys -/
theorem KeyT.int {q : IntKind} (hu : P.underlying KT = some (.int q)) : KeyT P KT (Value.int q) where
  check := fun e k w => by
    rw [show (10000 : Nat) = 9999 + 1 from rfl, Instr.checkKey]
    simp [run_underlying hu]
  eq := fun a b w => by
    have h1 : ∀ d, (Op.equalIn (d + 1) KT (.int q a) (.int q b)).run P w = .ok (a == b) w := fun d => by simp [Op.equalIn, run_underlying hu]
    have h2 : (a == b) = @decide (a = b) (propDecidable _) := by by_cases h : a = b <;> simp [h]
    rw [← h2]; exact h1 9999
  same := fun k => by
    rw [show (10000 : Nat) = 9999 + 1 from rfl]; simp [Instr.sameBits]
  desc := ⟨_, hu, fun a b => Or.inr (by
    have h2 : (a == b) = @decide (a = b) (propDecidable _) := by by_cases h : a = b <;> simp [h]
    simp [Instr.sameNow, h2])⟩
end
end Go.Vc
