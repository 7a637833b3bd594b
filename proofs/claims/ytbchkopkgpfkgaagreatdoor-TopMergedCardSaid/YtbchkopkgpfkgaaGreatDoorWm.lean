/- Wm. -/
import Derived.Test.YtbchkopkgpfkgaaGreatDoorWb
import Derived.Lib.AppendStr
import Derived.Lib.UnsafeStr
import Derived.Lib.Builder
import Derived.Laws.Externs
namespace Go.Vc
open Go Go.RowKit
open Classical
theorem ba_beq (a b : ByteArray) : (a == b) = @decide (a = b) (propDecidable _) := by
  cases a with | mk a =>
  cases b with | mk b =>
  show ByteArray.beq _ _ = _
  unfold ByteArray.beq
  by_cases h : a = b <;> simp [h]
section
variable {P : Program} {C : Cx} {N : Nat} {K : K3} {Q : Ex → K3} {env : Env} {V : HV} {σ : Res} {ops : Array Oper} {rest : List Oper} {w : World}
variable {d k b s : Nat} {dst : Option Nat} {x y z : Operand} {t T T' E KT : TypeId} {pos : String} {af : Array Edge} {g : Option (Nat × Bool)} {κ α : Type} {ek : κ → Value} {vl : α → Value} {f : κ → Option α} {key : κ} {a0 a1 : α}
theorem KeyT.str (hu : P.underlying KT = some .string) : KeyT P KT Value.string where
  check := fun e k w => by
    rw [show (10000 : Nat) = 9999 + 1 from rfl, Instr.checkKey]
    simp [run_underlying hu]
  eq := fun a b w => by
    have h1 : ∀ d, (Op.equalIn (d + 1) KT (.string a) (.string b)).run P w = .ok (a == b) w := fun d => by simp [Op.equalIn, run_underlying hu]
    rw [← ba_beq]; exact h1 9999
  same := fun k => by
    rw [show (10000 : Nat) = 9999 + 1 from rfl]; simp [Instr.sameBits, ba_beq]
  desc := ⟨_, hu, fun a b => Or.inr (by simp [Instr.sameNow, ba_beq])⟩
/-- A map of one's own whose entry number s is the key's. -/
def Mfs {κ α : Type} (b : Nat) (ek : κ → Value) (vl : α → Value) (f : κ → Option α) (key : κ) (s : Nat) : Asrt := fun h =>
  ∃ (es : Array MapEntry) (kv : List (κ × α)), h = one b (.map es es.size) ∧ es.toList.map (·.key) = kv.map (fun p => ek p.1) ∧ es.toList.map (·.val) = kv.map (fun p => vl p.2) ∧
    es.toList.map (·.born) = List.range es.size ∧ (kv.map Prod.fst).Nodup ∧ (∀ k, lk k kv = f k) ∧ (kv.map Prod.fst)[s]? = some key
/-- A map is laid anew. -/
theorem Mem.remap {A A' : Asrt} {es' : Array MapEntry} (m : Mem C V σ w) (hk : σ[k]? = some A) (hA : ∀ h, A h → ∃ es0 n0, h = one b (.map es0 n0)) (w' : World) (hw : w' = { w with heap := w.heap.setIfInBounds b (.map es' es'.size) }) (hA' : A' (one b (.map es' es'.size))) :
    Mem C V (σ.set k A') w' := by
  refine m.upd hk fun h hh hs hd => ?_
  obtain ⟨es0, n0, rfl⟩ := hA h hh
  have hb : hv w b = some (.map es0 n0) := hs b _ (by simp [one])
  have hlt := hv_lt hb
  subst hw
  refine Mem.single (h' := one b (.map es' es'.size)) rfl rfl rfl (by simp) (fun c hc hn => ?_) (fun c o hc => ?_) hd (fun c o hc => ?_) hA' (fun c hc hn => ?_)
  · have hne : c ≠ b := fun e => by subst e; simp [one] at hn
    show (w.heap.setIfInBounds b _)[c]? = _
    rw [Array.getElem?_setIfInBounds, if_neg (fun e => hne e.symm)]
  · exact m.view c o hc
  · unfold one at hc
    split at hc
    · rename_i e; subst e; cases hc
      show (w.heap.setIfInBounds c _)[c]? = _
      rw [Array.getElem?_setIfInBounds, if_pos rfl, if_pos hlt]
    · cases hc
  · unfold one at hn ⊢
    split at hn
    · rename_i e; rw [if_pos e]; simp
    · simp at hn
theorem modify_map {β : Type} {es : Array MapEntry} {j : Nat} (hjl : j < es.size) (F : MapEntry → β) (g' : MapEntry → MapEntry) (h : F (g' es[j]) = F es[j]) : (es.modify j g').toList.map F = es.toList.map F := by
  apply List.ext_getElem?
  intro i
  simp only [List.getElem?_map, Array.getElem?_toList, Array.getElem?_modify]
  by_cases hij : j = i
  · subst hij; simp [hjl, h]
  · simp [hij]
theorem modify_map2 {β : Type} {es : Array MapEntry} {j : Nat} (hjl : j < es.size) (F : MapEntry → β) (g' : MapEntry → MapEntry) (u : β) (h : F (g' es[j]) = u) : (es.modify j g').toList.map F = (es.toList.map F).modify j (fun _ => u) := by
  apply List.ext_getElem?
  intro i
  simp only [List.getElem?_map, Array.getElem?_toList, List.getElem?_modify, Array.getElem?_modify]
  by_cases hij : j = i
  · subst hij; simp [hjl, h]
  · simp [hij]
theorem run_mapEntry {ss yy : Nat} (m : Mem C V σ w) (hT : P.underlying T = some (.map KT E)) (hK : KeyT P KT ek) (hz : TI P E (vl a0) ss yy) (hk : σ[k]? = some (Mf b ek vl f)) :
    ∃ w' s, (Instr.mapEntry T (.map (some b)) (ek key)).run P w = .ok (.tuple #[vl ((f key).getD a0), .int .i64 (s : Nat)]) w' ∧ Mem C V (σ.set k (Mfs b ek vl (setF f key ((f key).getD a0)) key s)) w' := by
  obtain ⟨es, kv, hb, h1, h2, h3, h4, h5⟩ := m.mf hk
  have hA : ∀ h, Mf b ek vl f h → ∃ es0 n0, h = one b (.map es0 n0) := fun h ⟨es, _, e, _⟩ => ⟨es, es.size, e⟩
  have hl : es.toList.length = kv.length := by have := congrArg List.length h1; simpa using this
  have e1 := findKey_run hK key es.toList (kv.map Prod.fst) w (by rw [h1, List.map_map]; rfl)
  have ef := fnd_lk (vl := vl) key kv es.toList 0 h2
  rw [h5] at ef
  simp only [Instr.mapEntry, Sem.run_bind, run_underlying hT, Result.andThen_ok, MapKept.run_getObj_map hb, hK.check, e1]
  cases hf : fnd key (kv.map Prod.fst) es.toList 0 with
  | none =>
    have hn := fnd_none _ _ _ (by simp [hl]) hf
    rw [hf] at ef
    have ef : f key = none := by cases h : f key with | none => rfl | some v => rw [h] at ef; cases ef
    simp only [Sem.run_bind, run_zeroVal hz, Result.andThen_ok]
    rw [MapKept.run_setObj_map _ hb, ef]
    refine ⟨_, es.size, by simp [goInt]; rfl, ?_⟩
    refine m.remap (es' := es.push { key := ek key, val := vl a0, born := es.size }) hk hA _ (by simp) ⟨_, kv ++ [(key, a0)], rfl, by simp [h1], by simp [h2], by simp [h3, List.range_succ], ?_, fun q => by rw [lk_append hn, h5]; rfl, ?_⟩
    · rw [List.map_append, List.nodup_append]
      refine ⟨h4, by simp, ?_⟩
      intro a ha b hb
      simp only [List.map_cons, List.map_nil, List.mem_singleton] at hb
      subst hb; rintro rfl; exact hn ha
    · have : es.size = kv.length := by rw [← hl]; exact Array.length_toList.symm
      rw [List.map_append, List.getElem?_append_right (by simp; omega)]
      simp [this]
  | some p =>
    obtain ⟨j, u⟩ := p
    obtain ⟨_, hj⟩ := fnd_some _ _ _ _ _ hf
    rw [Nat.sub_zero] at hj
    rw [hf] at ef
    obtain ⟨v, hv, hu⟩ : ∃ v, f key = some v ∧ u = vl v := by
      cases h : f key with
      | none => rw [h] at ef; cases ef
      | some v => rw [h] at ef; exact ⟨v, rfl, by simpa using ef⟩
    subst hu
    have hjl : j < es.size := by
      have := (List.getElem?_eq_some_iff.1 hj).1
      have e : es.toList.length = es.size := Array.length_toList
      simp at this; omega
    have hkey : es[j].key = ek key := by
      have := congrArg (fun l => l[j]?) h1
      simp only [List.getElem?_map, Array.getElem?_toList] at this
      have hj2 := hj
      rw [List.getElem?_map] at hj2
      cases hkj : kv[j]? with
      | none => rw [hkj] at hj2; cases hj2
      | some p =>
        rw [hkj] at hj2 this
        simp at hj2
        rw [Array.getElem?_eq_getElem hjl] at this
        simp at this
        rw [this, hj2]
    have hborn : es[j].born = j := by
      have := congrArg (fun l => l[j]?) h3
      simp only [List.getElem?_map, Array.getElem?_toList, Array.getElem?_eq_getElem hjl] at this
      simpa [hjl] using this
    have hstay : (Instr.keyThatStays (((es[j]?).map (·.key)).getD (ek key)) (ek key)).run P w = .ok (ek key) w := by
      rw [Array.getElem?_eq_getElem hjl]
      simp [hkey, Instr.keyThatStays, hK.same]
    simp only [Sem.run_bind, hstay, Result.andThen_ok]
    rw [MapKept.run_setObj_map _ hb, hv]
    refine ⟨_, j, by simp [goInt, Array.getElem?_eq_getElem hjl, hborn]; rfl, ?_⟩
    refine m.remap (es' := es.modify j fun e => { e with key := ek key }) hk hA _ (by simp) ⟨_, kv, rfl, ?_, ?_, ?_, h4, fun q => ?_, hj⟩
    · rw [modify_map hjl (·.key) _ (by simp [hkey]), h1]
    · rw [modify_map hjl (·.val) _ rfl, h2]
    · rw [modify_map hjl (·.born) _ rfl, h3, Array.size_modify]
    · rw [h5]; unfold setF
      by_cases e : q = key
      · subst e; rw [if_pos rfl, hv]; rfl
      · rw [if_neg e]
theorem ops_mapentry {ss yy : Nat} (hT : P.underlying T = some (.map KT E)) (hK : KeyT P KT ek) (hz : TI P E (vl a0) ss yy) (hx : ev env x = .map (some b)) (hy : ev env y = ek key) (hk : σ[k]? = some (Mf b ek vl f))
    (h : ∀ s : Nat, Ops P C N ops K rest (Go.Vc.upd N env d (.tuple #[vl ((f key).getD a0), .int .i64 s])) V (σ.set k (Mfs b ek vl (setF f key ((f key).getD a0)) key s))) : Ops P C N ops K (⟨some d, .mapEntry T x y, t, pos, af, none⟩ :: rest) env V σ := fun a w hf hm => by
  refine wpList_plain rfl fun K' hK' => ?_
  unfold Oper.wp
  obtain ⟨w', s, e, hm'⟩ := run_mapEntry (key := key) hm hT hK hz hk
  have e' : (execOp (ev env) ⟨some d, .mapEntry T x y, t, pos, af, none⟩).run P w = .ok (.value (.tuple #[vl ((f key).getD a0), .int .i64 s])) w' := by
    simp [execOp, hx, hy, e]
  rw [hf.eval, e']
  exact hK' _ _ (h s _ _ (hf.put (some d) _) hm')
theorem find_born : ∀ (l : List MapEntry) (o s : Nat), l.map (·.born) = (List.range l.length).map (o + ·) → s < l.length → l.findIdx? (fun e => ((e.born : Nat) : Int) == (((o + s : Nat)) : Int)) = some s
  | [], _, s, _, h => absurd h (by simp)
  | e :: l, o, s, h, hs => by
    simp only [List.length_cons, List.range_succ_eq_map, List.map_cons, List.map_map, List.cons.injEq] at h
    rw [List.findIdx?_cons]
    cases s with
    | zero => simp [h.1]
    | succ s =>
      have hb : e.born = o := by simpa using h.1
      have ih := find_born l (o + 1) s (by rw [h.2]; apply List.map_congr_left; intro a _; simp; omega) (by simpa using hs)
      have hne : (((e.born : Nat) : Int) == ((o + (s + 1) : Nat) : Int)) = false := by simp [hb]; omega
      rw [hne, show o + (s + 1) = o + 1 + s by omega, ih]; rfl
theorem run_entryStore {v : α} (m : Mem C V σ w) (hk : σ[k]? = some (Mfs b ek vl f key s)) :
    ∃ w', (Instr.entryStore T (.map (some b)) (.int .i64 (s : Nat)) (vl v)).run P w = .ok () w' ∧ Mem C V (σ.set k (Mf b ek vl (setF f key v))) w' := by
  obtain ⟨p1, p2⟩ := perm_eraseIdx hk
  obtain ⟨hs0, q1, q2, q3⟩ := (m.perm p1).own
  obtain ⟨h, hh, hsub⟩ : ∃ h, Mfs b ek vl f key s h ∧ Sub h (hv w) := by
    match hs0, q1 with
    | h :: _, q1 => exact ⟨h, q1.1, (q3 h (List.mem_cons_self ..)).1⟩
  obtain ⟨es, kv, rfl, h1, h2, h3, h4, h5, h6⟩ := hh
  have hA : ∀ h, Mfs b ek vl f key s h → ∃ es0 n0, h = one b (.map es0 n0) := fun h ⟨es, _, e, _⟩ => ⟨es, es.size, e⟩
  have hb : w.heap[b]? = some (.map es es.size) := hsub b _ (by simp [one])
  have hl : es.toList.length = kv.length := by have := congrArg List.length h1; simpa using this
  have el : es.toList.length = es.size := Array.length_toList
  have hjl : s < es.size := by
    have := (List.getElem?_eq_some_iff.1 h6).1
    simp at this; omega
  have hfi : es.findIdx? (fun e => ((e.born : Nat) : Int) == ((s : Nat) : Int)) = some s := by
    have := find_born es.toList 0 s (by rw [h3, el]; simp) (by omega)
    rw [Nat.zero_add] at this
    rw [← List.findIdx?_toArray] at this; exact this
  simp only [Instr.entryStore, Sem.run_bind, MapKept.run_getObj_map hb, Result.andThen_ok]
  have ha : (asInt (.int .i64 ((s : Nat) : Int))).run P w = .ok ((s : Nat) : Int) w := by simp [asInt, asIntOf]
  rw [ha]
  simp only [Result.andThen_ok, hfi]
  rw [MapKept.run_setObj_map _ hb]
  refine ⟨_, rfl, m.remap (es' := es.modify s fun e => { e with val := vl v }) hk hA _ (by simp) ⟨_, kv.modify s fun p => (p.1, v), rfl, ?_, ?_, ?_, ?_, fun q => by rw [lk_set h4 h6, h5]; rfl⟩⟩
  · rw [modify_map hjl (·.key) _ rfl, h1]
    apply List.ext_getElem?
    intro i
    simp only [List.getElem?_modify, List.getElem?_map]
    by_cases hij : s = i
    · subst hij; cases hkj : kv[s]? <;> simp
    · simp [hij]
  · rw [modify_map2 hjl (·.val) _ (vl v) rfl, h2]
    apply List.ext_getElem?
    intro i
    simp only [List.getElem?_modify, List.getElem?_map]
    by_cases hij : s = i
    · subst hij; cases hkj : kv[s]? <;> simp
    · simp [hij]
  · rw [modify_map hjl (·.born) _ rfl, h3, Array.size_modify]
  · have e : (kv.modify s fun p => (p.1, v)).map Prod.fst = kv.map Prod.fst := by
      apply List.ext_getElem?
      intro i
      simp only [List.getElem?_modify, List.getElem?_map]
      by_cases hij : s = i
      · subst hij; cases hkj : kv[s]? <;> simp
      · simp [hij]
    rw [e]; exact h4
theorem ops_entrystore {v : α} (hx : ev env x = .map (some b)) (hy : ev env y = .int .i64 (s : Nat)) (hz : ev env z = vl v) (hk : σ[k]? = some (Mfs b ek vl f key s))
    (h : Ops P C N ops K rest env V (σ.set k (Mf b ek vl (setF f key v)))) : Ops P C N ops K (⟨none, .entryStore T x y z, t, pos, af, none⟩ :: rest) env V σ := fun a w hf hm => by
  refine wpList_plain rfl fun K' hK' => ?_
  unfold Oper.wp
  obtain ⟨w', e, hm'⟩ := run_entryStore (P := P) (T := T) (v := v) hm hk
  have e' : (execOp (ev env) ⟨none, .entryStore T x y z, t, pos, af, none⟩).run P w = .ok .skip w' := by
    simp [execOp, hx, hy, hz, e]
  rw [hf.eval, e']
  exact hK' _ _ (h _ _ (hf.put none _) hm')
theorem Mem.weak {A A' : Asrt} (m : Mem C V σ w) (hk : σ[k]? = some A) (h : ∀ x, A x → A' x) : Mem C V (σ.set k A') w :=
  m.upd hk fun _ hA hs hd => Mem.single rfl rfl rfl (Nat.le_refl _) (fun _ _ _ => rfl) m.view hd hs (h _ hA) (fun _ _ hn => hn)
/-- A look into a map whose entry is being written. -/
theorem qv_look1s {ss yy : Nat} {u : α} (hT : P.underlying T = some (.map KT E)) (hK : KeyT P KT ek) (hz : TI P E (vl a0) ss yy) (hk : σ[k]? = some (Mfs b ek vl (setF f key u) key s)) (hu : u = (f key).getD a0) (hx : ev env x = .map (some b)) (hy : ev env y = ek key) :
    QV P C ⟨dst, .lookup T x y false, t, pos, af, g⟩ env V σ (vl ((f key).getD a0)) := qv_run fun w hm => by
  have m2 := hm.weak (A' := Mf b ek vl (setF f key u)) hk fun _ ⟨es, kv, e, h1, h2, h3, h4, h5, _⟩ => ⟨es, kv, e, h1, h2, h3, h4, h5⟩
  have hlt : k < σ.length := (List.getElem?_eq_some_iff.1 hk).1
  have := run_look (key := key) m2 hT hK hz (by rw [List.getElem?_set_self hlt]) false
  rw [setF_same] at this
  simp only [Option.getD_some, hu] at this
  simp [execOp, hx, hy, this]
/-- Just these keys. -/
def KeysOf (f : κ → Option α) (L : List κ) : Prop := L.Nodup ∧ ∀ q, f q ≠ none ↔ q ∈ L
theorem perm_len {α : Type} : ∀ {a b : List α}, a.Nodup → b.Nodup → (∀ q, q ∈ a ↔ q ∈ b) → a.length = b.length := fun ha hb h => ((List.perm_ext_iff_of_nodup ha hb).2 h).length_eq
end
end Go.Vc

namespace Go.Vc
open Go Go.RowKit Go.Lib
section
variable {P : Program} {C : Cx} {N : Nat} {K : K3} {Q : Ex → K3} {env : Env} {V : HV} {σ : Res} {ops : Array Oper} {rest : List Oper}
variable {d k : Nat} {dst : Option Nat} {x y z : Operand} {t T T' E S : TypeId} {pos : String} {af : Array Edge} {g : Option (Nat × Bool)} {v : Value}
theorem ops_appendS {n yy : Nat} {xs : List Value} {s : ByteArray} {u : TypeId} (hT : P.underlying T = some (.slice E)) (hu : P.underlying u = some .string) (hi : TI P E (.int .u8 0) 1 yy) (hx : ev env x = v) (hk : σ[k]? = some (Gr E 1 v n xs)) (hy : ev env y = .string s)
    (hb : (n + s.size) * yy ≤ 140737488355328) (h63 : n + s.size ≤ maxLen)
    (h : ∀ v', Ops P C N ops K rest (upd N env d v') V (σ.set k (Gr E 1 v' (n + s.size) (xs ++ strCells s)))) :
    Ops P C N ops K (⟨some d, .call { callee := .builtin .append, args := #[x, y], argTypes := #[T, u] }, t, pos, af, none⟩ :: rest) env V σ := fun a w hf hm => by
  refine wpList_plain rfl fun K' hK' => ?_
  unfold Oper.wp
  obtain ⟨i, i1, i2, i3, i4⟩ := hi.out
  subst i4
  have hl : (strCells s).length = s.size := strCells_length s
  have run : ∀ (r : Result Value), (Builtin.append_ #[T, u] t #[v, .string s]).run P w = r →
      (execOp (ev env) ⟨some d, .call { callee := .builtin .append, args := #[x, y], argTypes := #[T, u] }, t, pos, af, none⟩).run P w = r.andThen (fun v w => .ok (.value v) w) := fun r hr => by
    simp only [execOp, resolve, invoke, builtin, Sem.run_bind, Sem.run_pure, Result.andThen_ok, List.map_toArray, List.map_cons, List.map_nil, hx, hy, hr]
  have fin : ∀ v' w', (Builtin.append_ #[T, u] t #[v, .string s]).run P w = .ok v' w' → Mem C V (σ.set k (Gr E 1 v' (n + s.size) (xs ++ strCells s))) w' →
      Oper.upon P ⟨some d, .call { callee := .builtin .append, args := #[x, y], argTypes := #[T, u] }, t, pos, af, none⟩ a K' (lift C N K fun _ _ _ _ => False) ((execOp (ev env) ⟨some d, .call { callee := .builtin .append, args := #[x, y], argTypes := #[T, u] }, t, pos, af, none⟩).run P w) := fun v' w' hr hm' => by
    rw [run _ hr]
    exact hK' _ _ (h v' _ _ (hf.put (some d) _) hm')
  rw [hf.eval]
  have hsmall : n + s.size ≤ 9223372036854775807 := by simp only [maxLen] at h63; omega
  obtain ⟨hs0, s1, s2, s3⟩ := hm.own
  obtain ⟨hh, e, hg⟩ := s1.get hk
  have hsub := (s3 hh (List.mem_of_getElem? e)).1
  have hxl : xs.length = n := by rw [hg.1, Nat.mul_one]
  have hlen : (xs ++ strCells s).length = (n + s.size) * 1 := by rw [List.length_append, hl, hxl, Nat.mul_one]
  have grown : ∀ (old : Nat), Mem C V (σ.set k (Gr E 1 (.slice (some ⟨w.heap.size, 0, none⟩) (n + s.size) (grownCap w (n + s.size) old E)) (n + s.size) (xs ++ strCells s)))
      (w.drew.alloc (.cells (xs.toArray ++ (strCells s).toArray ++ Builtin.zeroCells (Value.int .u8 0).cells (grownCap w (n + s.size) old E - (n + s.size))) E)) := fun old => by
    have hge := grownCap_ge w (n + s.size) old E
    have hcm : grownCap w (n + s.size) old E ≤ maxLen := grownCap_le_maxLen w (n + s.size) old E h63
    refine hm.upd hk fun q hq hqs hqd => ?_
    refine Mem.single (h' := one w.heap.size (.cells (xs.toArray ++ (strCells s).toArray ++ Builtin.zeroCells (Value.int .u8 0).cells (grownCap w (n + s.size) old E - (n + s.size))) E (0, 0))) rfl rfl rfl (by simp) (fun b hb _ => heap_alloc_old w.drew _ b hb) hm.view hqd ?_
      ⟨hlen, .inr ⟨w.heap.size, _, _, rfl, rfl, hge, hcm, ?_, ?_⟩⟩ ?_
    · intro b o hb
      unfold one at hb
      split at hb
      · rename_i hbe; subst hbe; cases hb
        exact heap_alloc_new w.drew _
      · cases hb
    · simp only [Array.size_append, List.size_toArray, size_zeroCells, hl, hxl]
      rw [show (Value.int .u8 0).cells.size = 1 from rfl]
      omega
    · simp only [Array.toList_append, List.append_assoc]
      rw [← List.append_assoc, ← hlen]
      exact List.take_left
    · intro b hb hn
      unfold one at hn
      split at hn
      · omega
      · exact absurd rfl hn
  rcases hg.2 with ⟨rfl, rfl, he⟩ | ⟨gb, cap, cur, rfl, he, hnc, hcm, hcs, htake⟩
  · have hx0 : xs = [] := List.eq_nil_of_length_eq_zero hxl
    subst hx0
    by_cases hm0 : s.size = 0
    · have hn0 : strCells s = [] := List.eq_nil_of_length_eq_zero (by omega)
      refine fin (.slice none 0 0) w ?_ ?_
      · have hf := run_firstCells_string (P := P) w i.size s
        simp [Builtin.append_, run_underlying hT, run_underlying hu, sizeOf, typeInfo, i1, Builtin.lenOf, hm0]
        have : s.data = #[] := by have h0 : s.data.size = 0 := hm0; exact Array.eq_empty_of_size_eq_zero h0
        simp [Builtin.firstCells, this, ByteArray.extract, ByteArray.copySlice]
      · rw [hn0, hm0]
        have hset : σ.set k (Gr E 1 (.slice none 0 0) (0 + 0) ([] ++ [])) = σ := by
          obtain ⟨hk1, hk2⟩ := List.getElem?_eq_some_iff.1 hk
          have : Gr E 1 (.slice none 0 0) (0 + 0) ([] ++ []) = σ[k] := by rw [hk2]; rfl
          rw [this]; exact List.set_getElem_self hk1
        rw [hset]; exact hm
    · have hr := run_append_nil_string (P := P) w T u t E i (.int .u8 0) hT hu i1 i2 s (by omega) (by omega) (by have hb := hb; simp only [Nat.zero_add] at hb; omega)
      have hgr := grown 0
      simp only [Nat.zero_add, List.nil_append, Array.empty_append] at hgr hr
      have e1 : (s.data.map fun b => Value.int .u8 b.toNat) = (strCells s).toArray := by
        apply Array.ext'
        simp [strCells]
      rw [e1] at hr
      refine fin _ _ hr ?_
      simpa using hgr
  · have hcell : w.heap[gb]? = some (.cells cur E (0, 0)) := hsub gb _ (by rw [he]; simp [one])
    by_cases hroom : n + s.size ≤ cap
    · have hfit : n + s.size ≤ cur.size := by rw [hcs, Nat.mul_one]; exact hroom
      have hr := run_append_room_string (P := P) w T u t E i hT hu i1 i3 gb n cap cur hcell s hroom hfit
      refine fin _ _ hr ?_
      have hlt : gb < w.heap.size := hv_lt (w := w) hcell
      refine hm.upd hk fun q hq hqs hqd => ?_
      have hqe : q gb ≠ none := by
        rcases hq.2 with ⟨q1, _⟩ | ⟨g', _, _, q1, q2, _⟩
        · cases q1
        · cases q1; rw [q2]; simp [one]
      refine Mem.single (h' := one gb (.cells (cur.toList.take n ++ strCells s ++ cur.toList.drop (n + s.size)).toArray E (0, 0))) rfl rfl rfl (by simp [World.setRow]) (fun b hb hn => setRow_other w gb b _ (fun e => hqe (e ▸ hn))) hm.view hqd ?_
        ⟨hlen, .inr ⟨gb, cap, _, rfl, rfl, hroom, hcm, ?_, ?_⟩⟩ ?_
      · intro b o hb
        unfold one at hb
        split at hb
        · rename_i hbe; subst hbe; cases hb
          exact setRow_heap w _ cur _ E _ hcell
        · cases hb
      · simp only [List.size_toArray, List.length_append, List.length_take, List.length_drop, Array.length_toList, hl]
        omega
      · rw [Nat.mul_one] at htake
        rw [htake, ← hlen]
        exact List.take_left
      · intro b hb hn
        unfold one at hn
        split at hn
        · rename_i hbe; subst hbe; exact hqe
        · exact absurd rfl hn
    · have holds : ∀ j u, xs[j]? = some u → w.cell? ((⟨gb, 0, none⟩ : Addr).add j) = some u := fun j u hu => by
        rw [add_cell (w := w) (b := gb) (off := 0) (i := j) hcell]
        rw [← htake, List.getElem?_take] at hu
        split at hu
        · simpa using hu
        · cases hu
      have hr := run_append_grow_string (P := P) w T u t E i (.int .u8 0) hT hu i1 i2 ⟨gb, 0, none⟩ n cap xs (by rw [i3, Nat.mul_one]; exact hxl) holds s (by omega) (by omega) (growslice_fits (by omega) hb)
      exact fin _ _ hr (grown cap)
/-- A slice of one's own, or nil, with nothing appended. -/
theorem ops_append0 {n s yy c : Nat} {z0 : Value} {xs : List Value} (hT : P.underlying T = some (.slice E)) (hi : TI P E z0 s yy) (hx : ev env x = v) (hk : σ[k]? = some (Gr E s v n xs)) (hy : ev env y = .slice none 0 c)
    (h : Ops P C N ops K rest (upd N env d v) V σ) : Ops P C N ops K (⟨some d, .call { callee := .builtin .append, args := #[x, y], argTypes := #[T, T] }, t, pos, af, none⟩ :: rest) env V σ := fun a w hf hm => by
  refine wpList_plain rfl fun K' hK' => ?_
  unfold Oper.wp
  obtain ⟨i, i1, i2, i3, i4⟩ := hi.out
  obtain ⟨hs0, s1, s2, s3⟩ := hm.own
  obtain ⟨hh, e, hg⟩ := s1.get hk
  have e' : (execOp (ev env) ⟨some d, .call { callee := .builtin .append, args := #[x, y], argTypes := #[T, T] }, t, pos, af, none⟩).run P w = .ok (.value v) w := by
    rcases hg.2 with ⟨rfl, rfl, _⟩ | ⟨gb, cap, cur, rfl, _, hnc, _⟩
    · simp [execOp, resolve, invoke, builtin, hx, hy, Builtin.append_, run_underlying hT, sizeOf, typeInfo, i1, Builtin.lenOf, Builtin.firstCells]
    · simp [execOp, resolve, invoke, builtin, hx, hy, Builtin.append_, run_underlying hT, sizeOf, typeInfo, i1, Builtin.lenOf, Builtin.firstCells, hnc, storeCells]
  rw [hf.eval, e']
  exact hK' _ _ (h _ _ (hf.put (some d) _) hm)
/-- The append of a slice that is known. -/
theorem ops_appendV {n yy : Nat} {z0 u : Value} {xs news : List Value} (hT : P.underlying T = some (.slice E)) (hi : TI P E z0 1 yy) (hzs : z0.cells.size = 1) (hx : ev env x = v) (hk : σ[k]? = some (Gr E 1 v n xs)) (hy : ev env y = u) (hs : Sl V u news) (h1 : ∀ u ∈ news, u.oneCell' = true)
    (hb : (n + news.length) * yy ≤ 140737488355328) (h63 : n + news.length ≤ maxLen)
    (h : ∀ v', Ops P C N ops K rest (upd N env d v') V (σ.set k (Gr E 1 v' (n + news.length) (xs ++ news)))) :
    Ops P C N ops K (⟨some d, .call { callee := .builtin .append, args := #[x, y], argTypes := #[T, T] }, t, pos, af, none⟩ :: rest) env V σ := by
  rcases hs.cases with ⟨cap, rfl, rfl⟩ | ⟨ad, cap, rfl, hn⟩
  · refine ops_append0 hT hi hx hk hy ?_
    have e := h v
    simp only [List.length_nil, Nat.add_zero, List.append_nil] at e
    have hset : σ.set k (Gr E 1 v n xs) = σ := by
      obtain ⟨hk1, hk2⟩ := List.getElem?_eq_some_iff.1 hk
      rw [← hk2]; exact List.set_getElem_self hk1
    rwa [hset] at e
  · exact ops_append hT hi hzs (by omega) hx hk hy (by omega) (fun w hm => hn w hm.view) h1 hb h63 (fun v' _ => h v')
theorem qv_eqpnn {te t2 : TypeId} (hT : P.underlying T = some (.pointer te)) (hx : ev env x = .pointer none) (hy : ev env y = .pointer none) : QV P C ⟨dst, .binOp .eql T x y t2, t, pos, af, g⟩ env V σ (.bool true) := qv_run fun w _ => by
  have h : ∀ d : Nat, (Op.equalIn (d + 1) T (.pointer none) (.pointer none)).run P w = .ok true w := fun d => by simp [Op.equalIn, run_underlying hT]
  simp [execOp, hx, hy, eqGuard, binOp, Op.equal, Op.maxDepth, h 9999]
theorem qv_eqpn {te t2 : TypeId} {a : Addr} (hT : P.underlying T = some (.pointer te)) (hx : ev env x = .pointer (some a)) (hy : ev env y = .pointer none) : QV P C ⟨dst, .binOp .eql T x y t2, t, pos, af, g⟩ env V σ (.bool false) := qv_run fun w _ => by
  have h : ∀ d : Nat, (Op.equalIn (d + 1) T (.pointer (some a)) (.pointer none)).run P w = .ok false w := fun d => by simp [Op.equalIn, run_underlying hT]
  simp [execOp, hx, hy, eqGuard, binOp, Op.equal, Op.maxDepth, h 9999]
theorem qv_neps {te t2 : TypeId} {a : Addr} {z0 : Value} {s yy : Nat} (hT : P.underlying T = some (.pointer te)) (hi : TI P te z0 s yy) (hx : ev env x = .pointer (some a)) (hy : ev env y = .pointer (some a)) : QV P C ⟨dst, .binOp .neq T x y t2, t, pos, af, g⟩ env V σ (.bool false) := qv_run fun w _ => by
  obtain ⟨i, i1, _⟩ := hi.out
  have h := run_neq_ptr_same (P := P) w (tp := T) a hT i1
  simp [execOp, hx, hy, eqGuard, h]
theorem qv_tou {e : TypeId} {b : Nat} {cs : List Value} {z0 : Value} {s yy : Nat} (hS : P.underlying S = some (.pointer e)) (hT : P.underlying T = some .unsafePointer) (hi : TI P e z0 s yy) (hs : s ≠ 0) (hk : σ[k]? = some (Arr e b cs)) (hc : cs ≠ []) (hx : ev env x = .pointer (some ⟨b, 0, none⟩)) :
    QV P C ⟨dst, .convert S T x, t, pos, af, g⟩ env V σ (.pointer (some ⟨b, 0, none⟩)) := qv_run fun w hm => by
  obtain ⟨i, i1, i2, i3, _⟩ := hi.out
  have hb := (hm.blk hk).1
  have h := run_to_unsafe (P := P) w ⟨b, 0, none⟩ hS hT i1 (by rw [i3]; exact hs) (show w.shape? b = some (e, cs.length) by simp [World.shape?, hb]) (by have := List.length_pos_iff.2 hc; exact this)
  simp [execOp, hx, h]
theorem qv_fromu {e : TypeId} {b : Nat} {cs : List Value} {z0 : Value} {s yy : Nat} (hS : P.underlying S = some .unsafePointer) (hT : P.underlying T = some (.pointer e)) (hi : TI P e z0 s yy) (hk : σ[k]? = some (Arr e b cs)) (hl : liesAt P P.depth e (cs.length / P.cellsOf e) 0 e 1 = true) (hx : ev env x = .pointer (some ⟨b, 0, none⟩)) :
    QV P C ⟨dst, .convert S T x, t, pos, af, g⟩ env V σ (.pointer (some ⟨b, 0, none⟩)) := qv_run fun w hm => by
  obtain ⟨i, i1, _⟩ := hi.out
  have hb := (hm.blk hk).1
  have h := run_from_unsafe (P := P) w ⟨b, 0, none⟩ hS hT i1 (show w.shape? b = some (e, cs.length) by simp [World.shape?, hb]) hl
  simp [execOp, hx, h]
theorem qv_noesc {f : FuncId} {fn : Func} {at_ : Array TypeId} (hf : P.funcs[f]? = some fn) (h1 : (fn.name == "runtime.NumGoroutine") = false) (h2 : fn.body.isNone = true) (h3 : Extern.findNext fn = none) (h4 : Extern.find fn = some Extern.AbiNoEscape.same) (hx : ev env x = .func (.func f) #[] #[]) (hy : ev env y = v) :
    QV P C ⟨dst, .call { callee := .value x, args := #[y], argTypes := at_ }, t, pos, af, g⟩ env V σ v := qv_run fun w _ => by
  have h := run_callFunc_extern hf h1 h2 h3 h4 #[v] w
  rw [run_noEscape] at h
  simp [execOp, resolve, hx, hy, Deferred.ofValue, invoke, h]
theorem qv_sdata {n c : Nat} {gb : Nat} {ts : TypeId} (hc : c ≠ 0) (hx : ev env x = .slice (some ⟨gb, 0, none⟩) n c) : QV P C ⟨dst, .call { callee := .builtin .unsafeSliceData, args := #[x], argTypes := #[ts] }, t, pos, af, g⟩ env V σ (.pointer (some ⟨gb, 0, none⟩)) := qv_run fun w _ => by
  have h := run_unsafeSliceData_row (P := P) w #[ts] t ⟨gb, 0, none⟩ n c hc
  simp [execOp, resolve, invoke, builtin, hx, h]
/-- What is not looked at any more. -/
def Junk : Asrt := fun _ => True
theorem ops_ustr {gb : Nat} {cs : List Value} {l : List UInt8} {pt it : TypeId} (hp : P.underlying pt = some (.pointer E)) (hc : P.cellsOf E = 1) (h0 : l ≠ []) (hk : σ[k]? = some (Arr E gb cs)) (hcs : cs.take l.length = byteCells l) (hx : ev env x = .pointer (some ⟨gb, 0, none⟩)) (hy : ev env y = .int .i64 (l.length : Nat)) (h63 : l.length ≤ 9223372036854775807)
    (h : Ops P C N ops K rest (upd N env d (.string ⟨l.toArray⟩)) V (σ.set k Junk)) :
    Ops P C N ops K (⟨some d, .call { callee := .builtin .unsafeString, args := #[x, y], argTypes := #[pt, it] }, t, pos, af, none⟩ :: rest) env V σ := fun a w hf hm => by
  refine wpList_plain rfl fun K' hK' => ?_
  unfold Oper.wp
  have hb := (hm.blk hk).1
  have hll : l.length ≤ cs.length := by have := congrArg List.length hcs; rw [List.length_take, byteCells_length] at this; omega
  have hr := run_unsafeString_row (P := P) w pt it t E hp hc gb cs.length (by simp [World.shape?, hb]) l h0 hll h63 (fun j u hu => by
    rw [add_cell (w := w) (b := gb) (off := 0) (i := j) hb]
    have h1 : (byteCells l)[j]? = some (.int .u8 u.toNat) := by simp [byteCells, hu]
    rw [← hcs, List.getElem?_take] at h1
    split at h1
    · simpa using h1
    · cases h1)
  have e : (execOp (ev env) ⟨some d, .call { callee := .builtin .unsafeString, args := #[x, y], argTypes := #[pt, it] }, t, pos, af, none⟩).run P w = .ok (.value (.string ⟨l.toArray⟩)) (w.freeze ⟨gb, 0, none⟩ l.length) := by
    simp [execOp, resolve, invoke, builtin, hx, hy, hr]
  rw [hf.eval, e]
  have hl0 : l.length ≠ 0 := by simpa using h0
  refine hK' _ _ (h _ _ (hf.put (some d) _) ?_)
  unfold World.freeze
  rw [if_neg hl0]
  have hlt : gb < w.heap.size := hv_lt (w := w) hb
  refine hm.upd hk fun q hq hqs hqd => ?_
  have hqe : q gb ≠ none := by rw [show q = one gb _ from hq]; simp [one]
  refine Mem.single (h' := fun _ => none) rfl rfl rfl (by simp) (fun b hb2 hn => ?_) hm.view hqd (fun _ _ h => by cases h) trivial (fun _ _ h => absurd rfl h)
  have hne : gb ≠ b := fun e => hqe (e ▸ hn)
  simp [Array.getElem?_modify, hne]
end
end Go.Vc
