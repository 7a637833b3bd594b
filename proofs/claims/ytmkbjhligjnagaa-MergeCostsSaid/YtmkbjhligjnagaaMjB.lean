/- Sorting and compacting a row that one owns: the library's contracts, in the words of the walks. -/
import Derived.Test.YtmkbjhligjnagaaWa
import Derived.Test.YtmkbjhligjnagaaSh
import Derived.Lib.SlicesCompact
import Derived.Test.YtmkbjhligjnagaaMjA
namespace Go.Proofs.Ytmkbjhligjnagaa
open Go Go.Vc Go.Sort
theorem mem_start {V0 : HV} {hs0 : List HV} {w0 : World} {σ0 : Res} (h1 : Sat σ0 hs0) (h2 : hs0.Pairwise Disj) (h3 : Vc.Sub V0 (hv w0)) (h4 : ∀ h ∈ hs0, Vc.Sub h (hv w0) ∧ Disj h V0) : Mem ⟨w0, V0, dom hs0⟩ V0 σ0 w0 :=
  ⟨rfl, rfl, rfl, Nat.le_refl _, fun _ _ _ => rfl, .refl _, h3, fun _ _ _ => rfl, hs0, h1, h2, fun h hh => ⟨(h4 h hh).1, (h4 h hh).2, fun b _ hne => ⟨h, hh, hne⟩⟩⟩
theorem put_heap {w : World} {g n : Nat} {zs : List Int} {E : TypeId} {cur : Array Value} (hb : w.heap[g]? = some (.cells cur E (0, 0))) :
    putRow (Value.int .i64) (Sort.ahead w n) g 0 zs.toArray = { ({ w with drawn := w.drawn + n } : World) with heap := w.heap.setIfInBounds g (.cells (putCells (Value.int .i64) 0 zs.toArray cur) E (0, 0)) } := by
  have hlt : g < w.heap.size := hv_lt (w := w) hb
  have hg : w.heap[g] = .cells cur E (0, 0) := by rw [Array.getElem?_eq_getElem hlt] at hb; exact Option.some.inj hb
  unfold putRow mapBlock Sort.ahead
  congr 1
  apply Array.ext
  · simp
  · intro i h1 h2
    simp only [Array.getElem_modify]
    by_cases hi : g = i
    · subst hi; simp [hg, onCells]
    · rw [if_neg hi, Array.getElem_setIfInBounds_ne _ hi]
theorem putCells_take {zs : List Int} {cur : Array Value} {n : Nat} (hn : zs.length = n) (hc : n ≤ cur.size) : (putCells (Value.int .i64) 0 zs.toArray cur).toList.take n = zs.map (Value.int .i64) := by
  apply List.ext_getElem
  · simp [putCells]; omega
  · intro i h1 h2
    simp at h1 h2
    have hi : i < zs.length := by omega
    simp [putCells, List.getElem_take, hi]
theorem Sort_c {V : HV} {v : Value} {zs : List Int} (hsz : zs.length < 4611686018427387904) :
    FnC Try.prog 64 [v] V [Gr 3 1 v zs.length (zs.map (Value.int .i64))] (fun u V' σ' => u = .tuple #[] ∧ V' = V ∧ σ' = [Gr 3 1 v zs.length ((zs.mergeSort fun x y => decide (x ≤ y)).map (Value.int .i64))]) := by
  refine ⟨⟨_, Try.func64, by rfl, by rfl⟩, fun w0 hs0 h1 h2 h3 h4 => ?_⟩
  have m0 := mem_start h1 h2 h3 h4
  obtain ⟨h, hh⟩ : ∃ h, hs0 = [h] := by
    match hs0, h1 with
    | [h], _ => exact ⟨h, rfl⟩
  subst hh
  have hg : Gr 3 1 v zs.length (zs.map (Value.int .i64)) h := h1.1
  obtain ⟨hl, hg⟩ := hg
  rcases hg with ⟨rfl, hn, _⟩ | ⟨g, cap, cur, rfl, rfl, q1, q2, q3, q4⟩
  · have hz : zs = [] := List.eq_nil_of_length_eq_zero hn
    subst hz
    refine (Try.slices_Sort_int_none none 0 w0).mono fun e w' ⟨he, hw⟩ => ?_
    subst hw
    exact ⟨_, V, _, he, ⟨rfl, rfl, rfl⟩, by simpa using m0⟩
  · have hb : w0.heap[g]? = some (.cells cur 3 (0, 0)) := (h4 (Vc.one g (.cells cur 3 (0, 0))) (List.mem_singleton.2 rfl)).1 g _ (by show (if g = g then some _ else none) = _; rw [if_pos rfl])
    have hH : Holds (Value.int .i64) w0 g 0 zs.toArray := fun j hj => by
      have hj' : j < zs.length := by simpa using hj
      have e : cur[j]? = some (.int .i64 zs[j]) := by
        have := congrArg (fun l => l[j]?) q4
        simp only [List.getElem?_take, List.getElem?_map] at this
        rw [if_pos (by omega)] at this
        simpa [List.getElem?_eq_getElem hj'] using this
      refine ⟨?_, by simp [World.frozen?, hb]⟩
      simp [World.cell?, hb, e, hj']
    refine (Try.slices_Sort_int g 0 cap zs w0 hH (hv_lt (w := w0) hb) hsz).mono fun e w' ⟨he, n, os, hw⟩ => ?_
    have hlen : (zs.mergeSort fun x y => decide (x ≤ y)).length = zs.length := List.length_mergeSort _
    rw [put_heap hb] at hw
    have m1 : Mem ⟨w0, V, dom [Vc.one g (.cells cur 3 (0, 0))]⟩ V [Blk g (.cells cur 3 (0, 0))] w0 :=
      mem_start (σ0 := [Blk g (.cells cur 3 (0, 0))]) ⟨rfl, trivial⟩ h2 h3 h4
    have m2 := (m1.drawn (w0.drawn + n)).setBlk (k := 0) rfl (.cells (putCells (Value.int .i64) 0 (zs.mergeSort fun x y => decide (x ≤ y)).toArray cur) 3 (0, 0)) _ rfl
    have hext : ∀ (w : World), Ext w (grow w os) := fun w => ⟨rfl, rfl, rfl, by simp [grow], fun k hk => by simp [grow, Array.getElem?_append, hk]⟩
    have m3 := m2.ext (hext _)
    rw [hw]
    refine ⟨_, V, _, he, ⟨rfl, rfl, rfl⟩, ?_⟩
    obtain ⟨hs, s1, s2, s3⟩ := m3.own
    refine ⟨m3.os, m3.tape, m3.output, m3.size, m3.frame, m3.sub, m3.view, m3.vold, hs, ?_, s2, s3⟩
    match hs, s1 with
    | [x], s1 =>
      refine ⟨⟨by simp [hlen], .inr ⟨g, cap, _, rfl, s1.1, q1, q2, by simp [putCells]; omega, ?_⟩⟩, trivial⟩
      rw [Nat.mul_one]
      exact putCells_take hlen (by omega)
theorem putCells_take2 {zs : List Int} {cur : Array Value} {n : Nat} (hn : n ≤ zs.length) (hc : zs.length ≤ cur.size) : (putCells (Value.int .i64) 0 zs.toArray cur).toList.take n = (zs.take n).map (Value.int .i64) := by
  have h := putCells_take (zs := zs) (cur := cur) rfl hc
  have h2 := congrArg (List.take n) h
  rw [List.take_take, Nat.min_eq_left hn, ← List.map_take] at h2
  exact h2
theorem Compact_c {V : HV} {v : Value} {zs : List Int} (hsz : zs.length ≤ 9223372036854775807) :
    FnC Try.prog 51 [v] V [Gr 3 1 v zs.length (zs.map (Value.int .i64))] (fun u V' σ' => V' = V ∧ σ' = [Gr 3 1 u (Lib.compact zs).length ((Lib.compact zs).map (Value.int .i64))]) := by
  refine ⟨⟨_, Try.func51, by rfl, by rfl⟩, fun w0 hs0 h1 h2 h3 h4 => ?_⟩
  have m0 := mem_start h1 h2 h3 h4
  obtain ⟨h, hh⟩ : ∃ h, hs0 = [h] := by
    match hs0, h1 with
    | [h], _ => exact ⟨h, rfl⟩
  subst hh
  have hg : Gr 3 1 v zs.length (zs.map (Value.int .i64)) h := h1.1
  by_cases hz : zs = []
  · subst hz
    obtain ⟨a, c, e, _⟩ := hg.shape
    subst e
    refine (Try.slices_Compact_int_empty a c w0).mono fun e w' ⟨he, hw⟩ => ?_
    subst hw
    exact ⟨_, V, _, he, ⟨rfl, rfl⟩, by simpa [Lib.compact, Lib.compactUpTo] using m0⟩
  obtain ⟨hl, hg⟩ := hg
  rcases hg with ⟨rfl, hn, _⟩ | ⟨g, cap, cur, rfl, rfl, q1, q2, q3, q4⟩
  · exact absurd (List.eq_nil_of_length_eq_zero hn) hz
  · have hb : w0.heap[g]? = some (.cells cur 3 (0, 0)) := (h4 (Vc.one g (.cells cur 3 (0, 0))) (List.mem_singleton.2 rfl)).1 g _ (by show (if g = g then some _ else none) = _; rw [if_pos rfl])
    have hH : Holds (Value.int .i64) w0 g 0 zs.toArray := fun j hj => by
      have hj' : j < zs.length := by simpa using hj
      have e : cur[j]? = some (.int .i64 zs[j]) := by
        have := congrArg (fun l => l[j]?) q4
        simp only [List.getElem?_take, List.getElem?_map] at this
        rw [if_pos (by omega)] at this
        simpa [List.getElem?_eq_getElem hj'] using this
      refine ⟨?_, by simp [World.frozen?, hb]⟩
      simp [World.cell?, hb, e, hj']
    refine (Try.slices_Compact_int g 0 cap zs w0 hH hsz q1).mono fun e w' ⟨he, n, hw⟩ => ?_
    have hcl : (Lib.compact zs).length ≤ zs.length := by
      have : (Lib.compact zs).length ≤ ((List.range zs.length)).length := by
        unfold Lib.compact Lib.compactUpTo
        rw [List.length_map]
        exact List.length_filter_le ..
      simpa using this
    have hlen : (Lib.compact zs ++ List.replicate (zs.length - (Lib.compact zs).length) 0).length = zs.length := by rw [List.length_append, List.length_replicate]; omega
    rw [put_heap hb] at hw
    have m1 : Mem ⟨w0, V, dom [Vc.one g (.cells cur 3 (0, 0))]⟩ V [Blk g (.cells cur 3 (0, 0))] w0 :=
      mem_start (σ0 := [Blk g (.cells cur 3 (0, 0))]) ⟨rfl, trivial⟩ h2 h3 h4
    have m3 := (m1.drawn (w0.drawn + n)).setBlk (k := 0) rfl (.cells (putCells (Value.int .i64) 0 (Lib.compact zs ++ List.replicate (zs.length - (Lib.compact zs).length) 0).toArray cur) 3 (0, 0)) _ rfl
    rw [hw]
    refine ⟨_, V, _, he, ⟨rfl, rfl⟩, ?_⟩
    obtain ⟨hs, s1, s2, s3⟩ := m3.own
    refine ⟨m3.os, m3.tape, m3.output, m3.size, m3.frame, m3.sub, m3.view, m3.vold, hs, ?_, s2, s3⟩
    match hs, s1 with
    | [x], s1 =>
      refine ⟨⟨by simp, .inr ⟨g, cap, _, rfl, s1.1, by omega, q2, by simp [putCells]; omega, ?_⟩⟩, trivial⟩
      rw [Nat.mul_one, putCells_take2 (by omega) (by omega), List.take_left' rfl]
/-- What one has laid anew is one's own. -/
theorem mem_fresh {V : HV} {w0 w' : World} {E : TypeId} {s n : Nat} {v : Value} {xs : List Value} (h3 : Vc.Sub V (hv w0)) (hr : w'.ownsRow w0.heap.size E s v n xs) (hb : Ext w0 w') : Mem ⟨w0, V, dom []⟩ V [Gr E s v n xs] w' := by
  have m0 : Mem ⟨w0, V, dom []⟩ V [] w0 := mem_start trivial List.Pairwise.nil h3 (fun h hh => by cases hh)
  have m := m0.ext hb
  obtain ⟨hl, hr⟩ := hr
  rcases hr with ⟨rfl, hn⟩ | ⟨g, cap, cur, rfl, hbase, hg, r1, r2, r3, r4⟩
  · refine ⟨m.os, m.tape, m.output, m.size, m.frame, m.sub, m.view, m.vold, [fun _ => none], ⟨⟨hl, .inl ⟨rfl, hn, rfl⟩⟩, trivial⟩, List.pairwise_singleton _ _, fun h hh => ?_⟩
    rw [List.mem_singleton.1 hh]
    refine ⟨?_, fun b => Or.inl rfl, fun b _ hne => absurd rfl hne⟩
    intro b o e
    exact absurd e (by simp)
  · refine ⟨m.os, m.tape, m.output, m.size, m.frame, m.sub, m.view, m.vold, [Vc.one g (.cells cur E (0, 0))], ⟨⟨hl, .inr ⟨g, cap, cur, rfl, rfl, r1, r2, r3, r4⟩⟩, trivial⟩, List.pairwise_singleton _ _, fun h hh => ?_⟩
    rw [List.mem_singleton.1 hh]
    refine ⟨fun b o e => ?_, fun b => ?_, fun b hlt hne => ?_⟩
    · unfold Vc.one at e
      split at e
      · rename_i q; subst q; cases e; exact hg
      · cases e
    · by_cases q : b = g
      · subst q
        right
        cases e : V b with
        | none => rfl
        | some o => have := hv_lt (h3 b o e); omega
      · left; unfold Vc.one; rw [if_neg q]
    · unfold Vc.one at hne
      split at hne
      · rename_i q; subst q; have : b < w0.heap.size := hlt; omega
      · exact absurd rfl hne
theorem App_c {V : HV} {sv : Value} {xs : List Int} {Bs : Nat} (hc : Cells V Bs [sv]) (hx : Ints .i64 V sv xs) (hlen : xs.length ≤ 1000000) :
    FnC Try.prog 69 [.slice none 0 0, .func (.func 65) #[] #[.pointer (some ⟨Bs, 0, none⟩)]] V [] (fun v V' σ' => V' = V ∧ σ' = [Gr 3 1 v xs.length (xs.map (Value.int .i64))]) := by
  refine ⟨⟨_, Try.func69, by rfl, by rfl⟩, fun w0 hs0 h1 h2 h3 h4 => ?_⟩
  obtain rfl : hs0 = [] := by cases hs0 with | nil => rfl | cons a l => exact h1.elim
  obtain ⟨Tc, fz, hc⟩ := hc
  have hcb := h3 _ _ hc
  have hI : IntsW w0.heap.size w0 sv xs := by
    obtain ⟨a, cap, rfl, q1, q2, q3⟩ := hx
    by_cases hz : xs = []
    · subst hz; exact .inl ⟨a, cap, rfl, rfl⟩
    · obtain ⟨b, off, cs, T, fz2, rfl, e2, e3⟩ := q3 (fun e => hz (List.map_eq_nil_iff.1 e))
      have hb : w0.heap[b]? = some (.cells cs T fz2) := h3 _ _ e2
      refine .inr ⟨b, off, cap, by rw [List.length_map], hv_lt (w := w0) hb, fun j hj => ?_⟩
      have := e3 j (by simpa using hj)
      simp only [World.cell?, hb, this]
      simp [hj]
  refine ((callsIn_wide (n := 3)).1 (app_in Fence.wide 3 trivial trivial rfl (by omega) Bs sv xs (by simp only [maxLen]; omega) (by omega) w0 (hv_lt (w := w0) hcb) (by
    have hcb : w0.heap[Bs]? = some (.cells [sv].toArray Tc fz) := hcb
    simp [World.cell?, hcb]) hI)).mono fun e w' ⟨v, he, hr, hb⟩ => ?_
  exact ⟨v, V, _, he, ⟨rfl, rfl⟩, mem_fresh h3 hr hb⟩
end Go.Proofs.Ytmkbjhligjnagaa
