import Derived.Test.YtkmhjcjpohpiaaaGreatWb
import Derived.Shelf.SlSortCmp.WholeK
import Derived.Shelf.SlSortCmp.NoneTotal
/- Sorting a row of one's own whose elements take several cells: the library's contract, in the words of the walks. No program in sight. -/
namespace Go.Vc
open Go Go.Sort Go.RowKit Go.Proofs
theorem mem_startK {V0 : HV} {hs0 : List HV} {w0 : World} {σ0 : Res} (h1 : Sat σ0 hs0) (h2 : hs0.Pairwise Disj) (h3 : Vc.Sub V0 (hv w0)) (h4 : ∀ h ∈ hs0, Vc.Sub h (hv w0) ∧ Disj h V0) : Mem ⟨w0, V0, dom hs0⟩ V0 σ0 w0 :=
  ⟨rfl, rfl, rfl, Nat.le_refl _, fun _ _ _ => rfl, .refl _, h3, fun _ _ _ => rfl, hs0, h1, h2, fun h hh => ⟨(h4 h hh).1, (h4 h hh).2, fun _ _ hne => ⟨h, hh, hne⟩⟩⟩
theorem put_heapK {w : World} {g n : Nat} {F : Array Value} {E : TypeId} {cur : Array Value} (hb : w.heap[g]? = some (.cells cur E (0, 0))) :
    putRow id (Sort.ahead w n) g 0 F = { ({ w with drawn := w.drawn + n } : World) with heap := w.heap.setIfInBounds g (.cells (putCells id 0 F cur) E (0, 0)) } := by
  have hlt : g < w.heap.size := hv_lt (w := w) hb
  have hg : w.heap[g] = .cells cur E (0, 0) := by rw [Array.getElem?_eq_getElem hlt] at hb; exact Option.some.inj hb
  unfold putRow mapBlock Sort.ahead
  congr 1
  apply Array.ext
  · simp
  · intro i h1 h2
    simp only [Array.getElem_modify]
    by_cases hi : g = i
    · subst hi; simp [hg, onCells]
    · rw [if_neg hi, Array.getElem_setIfInBounds_ne _ hi]
theorem putCells_takeK {F cur : Array Value} {n : Nat} (hn : F.size = n) (hc : n ≤ cur.size) : (putCells id 0 F cur).toList.take n = F.toList := by
  apply List.ext_getElem
  · simp [putCells]; omega
  · intro i h1 h2
    simp at h1 h2
    simp [putCells, List.getElem_take, h2]
section
variable {α : Type} [Inhabited α] {enc : α → List Value} {k : Nat}
theorem toList_at (d : Array α) (i : Nat) : d.toList[i]! = d[i]! := by
  by_cases h : i < d.size
  · rw [getElem!_pos d.toList i (by simpa using h), getElem!_pos d i h, Array.getElem_toList]
  · rw [getElem!_neg d.toList i (by simpa using h), getElem!_neg d i h]
theorem flat_get (hk : ∀ x, (enc x).length = k) : ∀ (l : List α) (t : Nat), t < l.length * k → (l.flatMap enc)[t]? = (enc l[t / k]!)[t % k]?
  | [], t, h => by simp at h
  | a :: l, t, h => by
    have k0 : 0 < k := by rcases Nat.eq_zero_or_pos k with q | q; · subst q; simp at h
                          · exact q
    rw [List.flatMap_cons, List.getElem?_append]
    by_cases q : t < (enc a).length
    · rw [if_pos q]
      rw [hk] at q
      rw [Nat.div_eq_of_lt q, Nat.mod_eq_of_lt q]; rfl
    · rw [if_neg q, hk]
      rw [hk] at q
      have h' : t - k < l.length * k := by rw [List.length_cons, Nat.add_mul, Nat.one_mul] at h; omega
      rw [flat_get hk l (t - k) h']
      have e1 : t / k = (t - k) / k + 1 := by rw [Nat.div_eq_sub_div k0 (by omega)]
      have e2 : t % k = (t - k) % k := Nat.mod_eq_sub_mod (by omega)
      rw [e1, e2]; rfl
omit [Inhabited α] in
theorem flat_len (hk : ∀ x, (enc x).length = k) : ∀ (l : List α), (l.flatMap enc).length = l.length * k
  | [] => by simp
  | a :: l => by rw [List.flatMap_cons, List.length_append, flat_len hk l, hk, List.length_cons, Nat.add_mul, Nat.one_mul]; omega
theorem flatK_list (hk : ∀ x, (enc x).length = k) (d : Array α) : (flatK enc k d).toList = d.toList.flatMap enc := by
  apply List.ext_getElem?
  intro t
  by_cases h : t < d.size * k
  · have k0 : 0 < k := by rcases Nat.eq_zero_or_pos k with q | q; · subst q; simp at h
                          · exact q
    rw [flat_get hk d.toList t (by simpa using h)]
    have hm : t % k < k := Nat.mod_lt _ k0
    have e : (flatK enc k d)[t]! = (enc d[t / k]!)[t % k]! := get_flatK enc k d t h
    have hs : t < (flatK enc k d).size := by simpa using h
    rw [getElem!_pos (flatK enc k d) t hs] at e
    have e3 : d.toList[t / k]! = d[t / k]! := toList_at d _
    rw [e3]
    have hl : t % k < (enc d[t / k]!).length := by rw [hk]; exact hm
    rw [getElem!_pos (enc d[t / k]!) (t % k) hl] at e
    rw [List.getElem?_eq_getElem hl, Array.getElem?_toList, Array.getElem?_eq_getElem hs, e]
  · rw [List.getElem?_eq_none (by simp; omega), List.getElem?_eq_none (by rw [flat_len hk]; simp; omega)]
theorem FnC.sortK {P : Program} {ρ : Go.Shelf.Ren} (L : Go.Proofs.SlLaysF0.n6 P ρ) {E : TypeId} (aE : ∀ w, (isAgg (ρ.t 24)).run P w = .ok true w) (zE : ∀ w, (Go.sizeOf (ρ.t 24)).run P w = .ok k w) (hk : ∀ x, (enc x).length = k) (h1c : ∀ x, ∀ v ∈ enc x, v.oneCell' = true) (cf : α → α → Int) (hO : SWO (ltOf cf)) (g : Nat)
    (eg : ∀ args w, (callFunc g args).run P w = .ok (.enter g args) w) (hcmp : ∀ blk off size w, CmpLays P g #[] enc k cf blk off size w) (hok : FnOk P (ρ.f 6)) {V : HV} {v : Value} {T : List α} (hsz : T.length < 4611686018427387904) :
    FnC P (ρ.f 6) [v, .func (.func g) #[] #[]] V [Gr E k v T.length (T.flatMap enc)] (fun u V' σ' => u = .tuple #[] ∧ V' = V ∧ ∃ T' : List α, T'.Perm T ∧ (∀ i j : Nat, i < j → j < T'.length → ltOf cf T'[j]! T'[i]! = false) ∧ σ' = [Gr E k v T.length (T'.flatMap enc)]) := by
  refine ⟨hok, fun w0 hs0 h1 h2 h3 h4 => ?_⟩
  have m0 := mem_startK h1 h2 h3 h4
  obtain ⟨h, hh⟩ : ∃ h, hs0 = [h] := by
    match hs0, h1 with
    | [h], _ => exact ⟨h, rfl⟩
  subst hh
  have hg : Gr E k v T.length (T.flatMap enc) h := h1.1
  obtain ⟨hl, hg⟩ := hg
  rcases hg with ⟨rfl, hn, _⟩ | ⟨gb, cap, cur, rfl, rfl, q1, q2, q3, q4⟩
  · have hz : T = [] := List.eq_nil_of_length_eq_zero hn
    subst hz
    refine (AnyF.slices_SortFunc_none L none 0 _ w0).mono fun e w' ⟨he, hw⟩ => ?_
    subst hw
    exact ⟨_, V, _, he, ⟨rfl, rfl, [], .refl _, fun i j _ hj => by simp at hj, rfl⟩, by simpa using m0⟩
  · have hb : w0.heap[gb]? = some (.cells cur E (0, 0)) := (h4 (Vc.one gb (.cells cur E (0, 0))) (List.mem_singleton.2 rfl)).1 gb _ (by show (if gb = gb then some _ else none) = _; rw [if_pos rfl])
    have hH : HoldsK enc k w0 gb 0 T.toArray := fun j hj => by
      have hj' : j < T.length * k := by simpa using hj
      have e : cur[j]? = some (flatK enc k T.toArray)[j] := by
        have := congrArg (fun l => l[j]?) q4
        simp only [List.getElem?_take] at this
        rw [if_pos (by omega), ← flatK_list hk T.toArray, Array.getElem?_toList, Array.getElem?_toList, Array.getElem?_eq_getElem hj] at this
        exact this
      refine ⟨?_, by simp [World.frozen?, hb]⟩
      simp [World.cell?, hb, e]
      exact (getElem!_pos _ j hj).symm
    have hc := AnyQ.slices_SortFunc L k aE zE enc hk h1c cf hO g #[] gb 0 cap T.toArray w0 eg (hcmp _ _ _ _) hH (hv_lt (w := w0) hb) (by simpa using hsz)
    rw [show T.toArray.size = T.length by simp] at hc
    refine hc.mono fun e w' ⟨he, d', n, os, hp, hs, hw⟩ => ?_
    have hdl : d'.size = T.length := by rw [hp.1]; simp
    have hfl : (flatK enc k d').size = T.length * k := by rw [size_flatK, hdl]
    have hw' : w' = grow { ({ w0 with drawn := w0.drawn + n } : World) with heap := w0.heap.setIfInBounds gb (.cells (putCells id 0 (flatK enc k d') cur) E (0, 0)) } os := by
      rw [hw]
      show grow (putRow id (Sort.ahead w0 n) gb 0 (flatK enc k d')) os = _
      rw [put_heapK hb]
    have m1 : Mem ⟨w0, V, dom [Vc.one gb (.cells cur E (0, 0))]⟩ V [Blk gb (.cells cur E (0, 0))] w0 :=
      mem_startK (σ0 := [Blk gb (.cells cur E (0, 0))]) ⟨rfl, trivial⟩ h2 h3 h4
    have m2 := (m1.drawn (w0.drawn + n)).setBlk (k := 0) rfl (.cells (putCells id 0 (flatK enc k d') cur) E (0, 0)) _ rfl
    have hext : ∀ (w : World), Ext w (grow w os) := fun w => ⟨rfl, rfl, rfl, by simp [grow], fun k hk => by simp [grow, Array.getElem?_append, hk]⟩
    have m3 := m2.ext (hext _)
    rw [hw']
    have hperm : d'.toList.Perm T := by
      have := hp.2.2
      have e1 : (d'.extract 0 T.toArray.size).toList = d'.toList := by simp [← hdl]
      have e2 : (T.toArray.extract 0 T.toArray.size).toList = T := by simp
      rw [show T.length = T.toArray.size by simp, e1, e2] at this
      exact this
    refine ⟨_, V, _, he, ⟨rfl, rfl, d'.toList, hperm, fun i j hij hj => ?_, rfl⟩, ?_⟩
    · have := hs i j (Nat.zero_le _) hij (by simpa [hdl] using hj)
      rw [toList_at, toList_at]; exact this
    obtain ⟨hs', s1, s2, s3⟩ := m3.own
    refine ⟨m3.os, m3.tape, m3.output, m3.size, m3.frame, m3.sub, m3.view, m3.vold, hs', ?_, s2, s3⟩
    match hs', s1 with
    | [x], s1 =>
      refine ⟨⟨by rw [flat_len hk]; simp [hdl], .inr ⟨gb, cap, _, rfl, s1.1, q1, q2, by simp [putCells]; exact q3, ?_⟩⟩, trivial⟩
      rw [← flatK_list hk d']
      exact putCells_takeK hfl (by rw [q3]; exact Nat.mul_le_mul_right k q1)
end
end Go.Vc
