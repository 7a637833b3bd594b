/- A range over a map of one's own. No program in sight. -/
import Derived.Test.YtmkbjhligjnagaaWb
import Derived.Maps.RangeRun
namespace Go.Vc
open Go Go.RowKit
open Go.ChangeMaps (setBlock)
open Classical
/-- A map of one's own, with n keys, and a walk over it that has come to the keys ks. -/
def Mit {κ α : Type} (r b : Nat) (ek : κ → Value) (vl : α → Value) (f : κ → Option α) (n : Nat) (ks : List κ) : Asrt := fun h =>
  r ≠ b ∧ ∃ (es : Array MapEntry) (kv : List (κ × α)) (seen : Array Nat), h = (fun c => if c = b then some (.map es es.size) else if c = r then some (.mapIter (some b) es.size seen es.size) else none) ∧
    es.toList.map (·.key) = kv.map (fun p => ek p.1) ∧ es.toList.map (·.val) = kv.map (fun p => vl p.2) ∧
    es.toList.map (·.born) = List.range es.size ∧ (kv.map Prod.fst).Nodup ∧ (∀ k, lk k kv = f k) ∧ kv.length = n ∧ seen.toList.map (fun s => (kv[s]?).map Prod.fst) = ks.map some ∧ ks.Nodup
theorem lk_at {κ α : Type} {kv : List (κ × α)} (hn : (kv.map Prod.fst).Nodup) {i : Nat} {p : κ × α} (h : kv[i]? = some p) : lk p.1 kv = some p.2 := by
  induction kv generalizing i with
  | nil => simp at h
  | cons a l ih =>
    simp only [List.map_cons, List.nodup_cons] at hn
    cases i with
    | zero => simp at h; subst h; simp [lk]
    | succ i =>
      simp at h
      have hm : p.1 ∈ l.map Prod.fst := List.mem_map.2 ⟨p, List.mem_of_getElem? h, rfl⟩
      simp only [lk]
      rw [if_neg (fun e => hn.1 (by rw [e]; exact hm))]
      exact ih hn.2 h
theorem lk_mem {κ α : Type} {kv : List (κ × α)} {q : κ} {v : α} (h : lk q kv = some v) : ∃ i : Nat, kv[i]? = some (q, v) := by
  induction kv with
  | nil => cases h
  | cons a l ih =>
    simp only [lk] at h
    by_cases e : a.1 = q
    · rw [if_pos e] at h
      exact ⟨0, by simp; rw [← Option.some.inj h, ← e]⟩
    · rw [if_neg e] at h
      obtain ⟨i, hi⟩ := ih h
      exact ⟨i + 1, by simpa using hi⟩
theorem nodup_le {β : Type} {l m : List β} (h1 : l.Nodup) (h2 : m.Nodup) (h : ∀ x ∈ l, x ∈ m) : l.length ≤ m.length := by
  have hp := (List.perm_ext_iff_of_nodup h1 (h2.filter fun x => decide (x ∈ l))).2 fun x => by
    rw [List.mem_filter, decide_eq_true_eq]
    exact ⟨fun z => ⟨h x z, z⟩, fun z => z.2⟩
  have a := hp.length_eq
  have c := List.length_filter_le (fun x => decide (x ∈ l)) m
  omega
section
variable {P : Program} {C : Cx} {N : Nat} {K : K3} {Q : Ex → K3} {env : Env} {V : HV} {σ : Res} {ops : Array Oper} {rest : List Oper} {w : World}
variable {d k b r n : Nat} {dst : Option Nat} {x y z : Operand} {t T T' E KT : TypeId} {pos : String} {af : Array Edge} {g : Option (Nat × Bool)} {κ α : Type} {ek : κ → Value} {vl : α → Value} {f : κ → Option α} {ks : List κ}
theorem ops_range (hT : P.underlying T = some (.map KT E)) (hx : ev env x = .map (some b)) (hk : σ[k]? = some (Mf b ek vl f))
    (h : ∀ r n, Ops P C N ops K rest (upd N env d (.pointer (some ⟨r, 0, none⟩))) V (σ.set k (Mit r b ek vl f n []))) : Ops P C N ops K (⟨some d, .range T x, t, pos, af, none⟩ :: rest) env V σ := fun a w hf hm => by
  refine wpList_plain rfl fun K' hK' => ?_
  unfold Oper.wp
  obtain ⟨es, kv, hb, h1, h2, h3, h4, h5⟩ := hm.mf hk
  have e : (execOp (ev env) ⟨some d, .range T x, t, pos, af, none⟩).run P w = .ok (.value (.pointer (some ⟨w.heap.size, 0, none⟩))) { w with heap := w.heap.push (.mapIter (some b) es.size #[] es.size) } := by
    simp [execOp, hx, Instr.range, run_underlying hT, MapKept.run_getObj_map hb, newObj, Sem.run]
  rw [hf.eval, e]
  refine hK' _ _ (h w.heap.size kv.length _ _ (hf.put (some d) _) (hm.upd hk fun q hA hs hd => ?_))
  obtain ⟨es0, kv0, rfl, _⟩ := hA
  have hb0 : hv w b = some (.map es0 es0.size) := hs b _ (by simp [one])
  have hb1 : hv w b = some (.map es es.size) := hb
  rw [hb0] at hb1
  cases hb1
  have hlt := hv_lt hb0
  refine Mem.single (h' := fun c => if c = b then some (.map es es.size) else if c = w.heap.size then some (.mapIter (some b) es.size #[] es.size) else none) rfl rfl rfl (by simp) (fun c hc _ => ?_) hm.view hd (fun c o hc => ?_) ⟨by omega, es, kv, #[], rfl, h1, h2, h3, h4, h5, rfl, rfl, List.nodup_nil⟩ (fun c hc hn => ?_)
  · show (w.heap.push _)[c]? = _
    rw [Array.getElem?_push, if_neg (by omega)]
  · show (w.heap.push _)[c]? = _
    have hcc : (if c = b then some (Obj.map es es.size) else if c = w.heap.size then some (.mapIter (some b) es.size #[] es.size) else none) = some o := hc
    replace hc := hcc
    clear hcc
    rw [Array.getElem?_push]
    split at hc
    · rename_i q; subst q; rw [if_neg (by omega)]; exact hb.trans hc
    · split at hc
      · rename_i q; rw [if_pos q, ← hc]
      · cases hc
  · have hn : (if c = b then some (Obj.map es es.size) else if c = w.heap.size then some (.mapIter (some b) es.size #[] es.size) else none) ≠ none := hn
    split at hn
    · rename_i q; subst q; simp [one]
    · rw [if_neg (by omega)] at hn; exact absurd rfl hn
theorem Mem.mit (m : Mem C V σ w) (hk : σ[k]? = some (Mit r b ek vl f n ks)) : r ≠ b ∧ ∃ (es : Array MapEntry) (kv : List (κ × α)) (seen : Array Nat), w.heap[b]? = some (.map es es.size) ∧ w.heap[r]? = some (.mapIter (some b) es.size seen es.size) ∧
    es.toList.map (·.key) = kv.map (fun p => ek p.1) ∧ es.toList.map (·.val) = kv.map (fun p => vl p.2) ∧
    es.toList.map (·.born) = List.range es.size ∧ (kv.map Prod.fst).Nodup ∧ (∀ k, lk k kv = f k) ∧ kv.length = n ∧ seen.toList.map (fun s => (kv[s]?).map Prod.fst) = ks.map some ∧ ks.Nodup := by
  obtain ⟨hs, h1, h2, h3⟩ := m.own
  obtain ⟨h, e, hne, es, kv, seen, rfl, q⟩ := h1.get hk
  have hv_ := (h3 _ (List.mem_of_getElem? e)).1
  exact ⟨hne, es, kv, seen, hv_ b _ (by simp), hv_ r _ (by simp [hne]), q⟩
/-- An entry's place is its stamp. -/
theorem born_at {es : Array MapEntry} (h3 : es.toList.map (·.born) = List.range es.size) {i : Nat} {e : MapEntry} (h : es.toList[i]? = some e) : e.born = i := by
  have := congrArg (fun l => l[i]?) h3
  simp only [List.getElem?_map, h, Option.map_some] at this
  have hi : i < es.size := by
    have := (List.getElem?_eq_some_iff.1 h).1
    simpa using this
  rw [List.getElem?_range hi] at this
  exact Option.some.inj this
theorem kv_at {es : Array MapEntry} {kv : List (κ × α)} (h1 : es.toList.map (·.key) = kv.map (fun p => ek p.1)) (h2 : es.toList.map (·.val) = kv.map (fun p => vl p.2)) {i : Nat} {e : MapEntry} (h : es.toList[i]? = some e) : ∃ p, kv[i]? = some p ∧ e.key = ek p.1 ∧ e.val = vl p.2 := by
  have a := congrArg (fun l => l[i]?) h1
  have c := congrArg (fun l => l[i]?) h2
  simp only [List.getElem?_map, h, Option.map_some] at a c
  cases q : kv[i]? with
  | none => rw [q] at a; cases a
  | some p =>
    rw [q] at a c
    exact ⟨p, rfl, by simpa using a, by simpa using c⟩
theorem es_at {es : Array MapEntry} {kv : List (κ × α)} (h1 : es.toList.map (·.key) = kv.map (fun p => ek p.1)) {i : Nat} {p : κ × α} (h : kv[i]? = some p) : ∃ e, es.toList[i]? = some e := by
  have a := congrArg (fun l => l[i]?) h1
  simp only [List.getElem?_map, h, Option.map_some] at a
  cases q : es.toList[i]? with
  | none => rw [q] at a; cases a
  | some e => exact ⟨e, rfl⟩
theorem ops_next (hx : ev env x = .pointer (some ⟨r, 0, none⟩)) (hk : σ[k]? = some (Mit r b ek vl f n ks))
    (hd : (∀ q, f q ≠ none → q ∈ ks) → Ops P C N ops K rest (upd N env d (.tuple #[.bool false])) V σ)
    (hm : ∀ q v, f q = some v → q ∉ ks → ks.length < n → Ops P C N ops K rest (upd N env d (.tuple #[.bool true, ek q, vl v])) V (σ.set k (Mit r b ek vl f n (ks ++ [q])))) :
    Ops P C N ops K (⟨some d, .next x false, t, pos, af, none⟩ :: rest) env V σ := fun a w hf hmm => by
  refine wpList_plain rfl fun K' hK' => ?_
  unfold Oper.wp
  obtain ⟨hne, es, kv, seen, hb, hr, h1, h2, h3, h4, h5, h6, h10, h11⟩ := hmm.mit hk
  have hold : ∀ x ∈ es.toList, x.born < es.size := fun e he => by
    obtain ⟨i, hi⟩ := List.mem_iff_getElem?.1 he
    have := born_at h3 hi
    have hl := (List.getElem?_eq_some_iff.1 hi).1
    have : es.toList.length = es.size := by simp
    omega
  rw [hf.eval]
  rcases run_next_at (P := P) w t r b es.size es.size seen es es.size hr hb hold (Nat.le_refl _) with ⟨hz, hrun⟩ | ⟨e, he, w1, hw1, hrun⟩
  · have e1 : (execOp (ev env) ⟨some d, .next x false, t, pos, af, none⟩).run P w = .ok (.value (.tuple #[.bool false])) w := by
      simp [execOp, hx, hrun]
    rw [e1]
    refine hK' _ _ (hd (fun q hq => ?_) _ _ (hf.put (some d) _) hmm)
    cases hv0 : f q with
    | none => exact absurd hv0 hq
    | some v =>
      obtain ⟨i, hi⟩ := lk_mem (kv := kv) (by rw [h5, hv0])
      obtain ⟨e, he⟩ := es_at h1 hi
      have hborn := born_at h3 he
      have hin : seen.contains e.born = true := by
        cases hc : seen.contains e.born with
        | true => rfl
        | false =>
          have : e ∈ leftOf es seen := by
            unfold leftOf
            rw [Array.mem_filter]
            exact ⟨Array.mem_def.2 (List.mem_of_getElem? he), by simp only [hc]; rfl⟩
          rw [Array.eq_empty_of_size_eq_zero hz] at this
          simp at this
      rw [hborn] at hin
      have hin : i ∈ seen.toList := by simpa using hin
      have : some q ∈ ks.map some := by
        rw [← h10]
        exact List.mem_map.2 ⟨i, hin, by rw [hi]; rfl⟩
      obtain ⟨q', hq', e'⟩ := List.mem_map.1 this
      cases e'; exact hq'
  · have heL : e ∈ es.toList ∧ seen.contains e.born = false := by
      unfold leftOf at he
      have := Array.mem_filter.1 (Array.mem_def.2 he)
      exact ⟨Array.mem_def.1 this.1, by simpa using this.2⟩
    obtain ⟨i, hi⟩ := List.mem_iff_getElem?.1 heL.1
    have hborn := born_at h3 hi
    obtain ⟨p, hp, ekey, evl⟩ := kv_at h1 h2 hi
    have hfp : f p.1 = some p.2 := by rw [← h5]; exact lk_at h4 hp
    have hpn : p.1 ∉ ks := fun hm' => by
      have : some p.1 ∈ ks.map some := List.mem_map.2 ⟨_, hm', rfl⟩
      rw [← h10] at this
      obtain ⟨s, hs, e'⟩ := List.mem_map.1 this
      cases hks : kv[s]? with
      | none => rw [hks] at e'; cases e'
      | some p' =>
        rw [hks] at e'
        have e' : p'.1 = p.1 := by simpa using e'
        have a1 : (kv.map Prod.fst)[s]? = some p.1 := by rw [List.getElem?_map, hks]; simp [e']
        have a2 : (kv.map Prod.fst)[i]? = some p.1 := by rw [List.getElem?_map, hp]; rfl
        have : s = i := (List.getElem?_inj (List.getElem?_eq_some_iff.1 a1).1 h4).1 (a1.trans a2.symm)
        subst this
        rw [hborn] at heL
        have : seen.contains s = true := by simpa using hs
        rw [this] at heL; cases heL.2
    have hlen : ks.length < n := by
      have hnd : (ks ++ [p.1]).Nodup := by
        rw [List.nodup_append]
        exact ⟨h11, by simp, fun a ha b hb e => by rw [List.mem_singleton.1 hb] at e; rw [e] at ha; exact hpn ha⟩
      have hsub : ∀ x ∈ ks ++ [p.1], x ∈ kv.map Prod.fst := fun x hx => by
        rcases List.mem_append.1 hx with q | q
        · have : some x ∈ ks.map some := List.mem_map.2 ⟨_, q, rfl⟩
          rw [← h10] at this
          obtain ⟨s, hs, e'⟩ := List.mem_map.1 this
          cases hks : kv[s]? with
          | none => rw [hks] at e'; cases e'
          | some p' =>
            rw [hks] at e'
            have e' : p'.1 = x := by simpa using e'
            rw [← e']; exact List.mem_map.2 ⟨p', List.mem_of_getElem? hks, rfl⟩
        · rw [List.mem_singleton.1 q]; exact List.mem_map.2 ⟨p, List.mem_of_getElem? hp, rfl⟩
      have := nodup_le hnd h4 hsub
      simp at this
      omega
    have hw : w1.heap = w.heap ∧ w1.os = w.os ∧ w1.tape = w.tape ∧ w1.output = w.output := by
      rcases hw1 with rfl | rfl <;> exact ⟨rfl, rfl, rfl, rfl⟩
    have e1 : (execOp (ev env) ⟨some d, .next x false, t, pos, af, none⟩).run P w = .ok (.value (.tuple #[.bool true, ek p.1, vl p.2])) (setBlock w1 r (.mapIter (some b) es.size (seen.push e.born) es.size)) := by
      simp [execOp, hx, hrun, ekey, evl]
    rw [e1]
    refine hK' _ _ (hm p.1 p.2 hfp hpn hlen _ _ (hf.put (some d) _) (hmm.upd hk fun q hA hs hdj => ?_))
    obtain ⟨_, es0, kv0, seen0, rfl, _⟩ := hA
    have hb0 : hv w b = some (.map es0 es0.size) := hs b _ (by simp)
    have hr0 : hv w r = some (.mapIter (some b) es0.size seen0 es0.size) := hs r _ (by simp [hne])
    have hb1 : hv w b = some (.map es es.size) := hb
    have hr1 : hv w r = some (.mapIter (some b) es.size seen es.size) := hr
    rw [hb0] at hb1; cases hb1
    rw [hr0] at hr1; cases hr1
    have hltr := hv_lt hr0
    have hheap : (setBlock w1 r (.mapIter (some b) es.size (seen.push e.born) es.size)).heap = w.heap.setIfInBounds r (.mapIter (some b) es.size (seen.push e.born) es.size) := by
      unfold setBlock; rw [hw.1]
    refine Mem.single (h' := fun c => if c = b then some (.map es es.size) else if c = r then some (.mapIter (some b) es.size (seen.push e.born) es.size) else none) (by unfold setBlock; exact hw.2.1) (by unfold setBlock; exact hw.2.2.1) (by unfold setBlock; exact hw.2.2.2) (by rw [hheap]; simp) (fun c hc hn => ?_) hmm.view hdj (fun c o hc => ?_)
      ⟨hne, es, kv, seen.push e.born, rfl, h1, h2, h3, h4, h5, h6, by rw [Array.toList_push, List.map_append, List.map_append, h10, hborn]; simp [hp], by
        rw [List.nodup_append]
        exact ⟨h11, by simp, fun a ha b hb e => by rw [List.mem_singleton.1 hb] at e; rw [e] at ha; exact hpn ha⟩⟩ (fun c hc hn => ?_)
    · rw [hheap, Array.getElem?_setIfInBounds, if_neg (fun q => by subst q; simp [hne] at hn)]
    · unfold hv
      have hcc : (if c = b then some (Obj.map es es.size) else if c = r then some (.mapIter (some b) es.size (seen.push e.born) es.size) else none) = some o := hc
      replace hc := hcc
      clear hcc
      rw [hheap, Array.getElem?_setIfInBounds]
      split at hc
      · rename_i q; subst q; rw [if_neg hne]; exact hb.trans hc
      · split at hc
        · rename_i q; rw [if_pos q.symm, if_pos hltr, ← hc]
        · cases hc
    · by_cases q1 : c = b
      · rw [if_pos q1]; simp
      · by_cases q2 : c = r
        · rw [if_neg q1, if_pos q2]; simp
        · rw [if_neg q1, if_neg q2] at hn; exact absurd rfl hn
theorem qv_entry {q : κ} {v : α} (hx : ev env x = .pointer (some ⟨r, 0, none⟩)) (hk : σ[k]? = some (Mit r b ek vl f n (ks ++ [q]))) (hv : f q = some v) : QV P C ⟨dst, .entry x, t, pos, af, g⟩ env V σ (.tuple #[ek q, vl v]) := qv_run fun w hm => by
  obtain ⟨hne, es, kv, seen, hb, hr, h1, h2, h3, h4, h5, h6, h10, h11⟩ := hm.mit hk
  have hne0 : seen ≠ #[] := fun e => by subst e; simp at h10
  obtain ⟨sn, s, rfl⟩ : ∃ (sn : Array Nat) (s : Nat), seen = sn.push s := Array.eq_push_of_size_ne_zero (fun e => hne0 (Array.eq_empty_of_size_eq_zero e))
  rw [Array.toList_push, List.map_append, List.map_append] at h10
  have h10 := (List.append_inj' h10 rfl).2
  have hs : (kv[s]?).map Prod.fst = some q := by simpa using h10
  cases hks : kv[s]? with
  | none => rw [hks] at hs; cases hs
  | some p =>
    rw [hks] at hs
    have hq : p.1 = q := by simpa using hs
    have hfp : f p.1 = some p.2 := by rw [← h5]; exact lk_at h4 hks
    rw [hq, hv] at hfp
    obtain ⟨e, he⟩ := es_at h1 hks
    obtain ⟨p', hp', ek', ev'⟩ := kv_at h1 h2 he
    rw [hks] at hp'; cases hp'
    have hb' := born_at h3 he
    have := run_entry_at (P := P) w r b es.size sn es es.size e (by rw [hb']; exact hr) hb (List.mem_of_getElem? he) (by rw [h3]; exact List.nodup_range)
    simp [execOp, hx, this, ek', ev', hq]
    exact (Option.some.inj hfp).symm ▸ rfl
end
end Go.Vc
