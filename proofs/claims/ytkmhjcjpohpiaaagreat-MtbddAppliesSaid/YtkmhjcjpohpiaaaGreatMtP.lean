import Derived.Test.YtkmhjcjpohpiaaaGreatWb
import Derived.Test.YtkmhjcjpohpiaaaGreatWm
import Derived.Test.YtkmhjcjpohpiaaaGreatTy
import Derived.Test.YtkmhjcjpohpiaaaGreatSh
import Derived.Lib.SlicesCompact
import Derived.Walk
import Derived.Deep.QuietTactic
import Derived.BigQuiet
/- Sorting and compacting a row that one owns: the library's contracts, in the words of the walks. -/
namespace Go.Proofs.YtkmhjcjpohpiaaaGreat
open Go Go.Vc Go.Sort Go.RowKit
theorem put_heap {w : World} {g n : Nat} {zs : List Int} {E : TypeId} {cur : Array Value} (hb : w.heap[g]? = some (.cells cur E (0, 0))) :
    putRow (Value.int .i64) (Sort.ahead w n) g 0 zs.toArray = { ({ w with drawn := w.drawn + n } : World) with heap := w.heap.setIfInBounds g (.cells (putCells (Value.int .i64) 0 zs.toArray cur) E (0, 0)) } := by
  have hlt : g < w.heap.size := hv_lt (w := w) hb
  have hg : w.heap[g] = .cells cur E (0, 0) := by rw [Array.getElem?_eq_getElem hlt] at hb; exact Option.some.inj hb
  unfold putRow mapBlock Sort.ahead
  congr 1
  apply Array.ext
  · simp
  · intro i h1 h2
    simp only [Array.getElem_modify]
    by_cases hi : g = i
    · subst hi; simp [hg, onCells]
    · rw [if_neg hi, Array.getElem_setIfInBounds_ne _ hi]
theorem putCells_take {zs : List Int} {cur : Array Value} {n : Nat} (hn : zs.length = n) (hc : n ≤ cur.size) : (putCells (Value.int .i64) 0 zs.toArray cur).toList.take n = zs.map (Value.int .i64) := by
  apply List.ext_getElem
  · simp [putCells]; omega
  · intro i h1 h2
    simp at h1 h2
    have hi : i < zs.length := by omega
    simp [putCells, List.getElem_take, hi]
theorem Sort_c {V : HV} {v : Value} {zs : List Int} (hsz : zs.length < 4611686018427387904) :
    FnC Tryz.prog 45 [v] V [Gr 3 1 v zs.length (zs.map (Value.int .i64))] (fun u V' σ' => u = .tuple #[] ∧ V' = V ∧ σ' = [Gr 3 1 v zs.length ((zs.mergeSort fun x y => decide (x ≤ y)).map (Value.int .i64))]) := by
  refine ⟨⟨_, Tryz.func45, by rfl, by rfl⟩, fun w0 hs0 h1 h2 h3 h4 => ?_⟩
  have m0 := mem_start h1 h2 h3 h4
  obtain ⟨h, hh⟩ : ∃ h, hs0 = [h] := by
    match hs0, h1 with
    | [h], _ => exact ⟨h, rfl⟩
  subst hh
  have hg : Gr 3 1 v zs.length (zs.map (Value.int .i64)) h := h1.1
  obtain ⟨hl, hg⟩ := hg
  rcases hg with ⟨rfl, hn, _⟩ | ⟨g, cap, cur, rfl, rfl, q1, q2, q3, q4⟩
  · have hz : zs = [] := List.eq_nil_of_length_eq_zero hn
    subst hz
    refine (Tryz.slices_Sort_int_none none 0 w0).mono fun e w' ⟨he, hw⟩ => ?_
    subst hw
    exact ⟨_, V, _, he, ⟨rfl, rfl, rfl⟩, by simpa using m0⟩
  · have hb : w0.heap[g]? = some (.cells cur 3 (0, 0)) := (h4 (Vc.one g (.cells cur 3 (0, 0))) (List.mem_singleton.2 rfl)).1 g _ (by show (if g = g then some _ else none) = _; rw [if_pos rfl])
    have hH : Holds (Value.int .i64) w0 g 0 zs.toArray := fun j hj => by
      have hj' : j < zs.length := by simpa using hj
      have e : cur[j]? = some (.int .i64 zs[j]) := by
        have := congrArg (fun l => l[j]?) q4
        simp only [List.getElem?_take, List.getElem?_map] at this
        rw [if_pos (by omega)] at this
        simpa [List.getElem?_eq_getElem hj'] using this
      refine ⟨?_, by simp [World.frozen?, hb]⟩
      simp [World.cell?, hb, e, hj']
    refine (Tryz.slices_Sort_int g 0 cap zs w0 hH (hv_lt (w := w0) hb) hsz).mono fun e w' ⟨he, n, os, hw⟩ => ?_
    have hlen : (zs.mergeSort fun x y => decide (x ≤ y)).length = zs.length := List.length_mergeSort _
    rw [put_heap hb] at hw
    have m1 : Mem ⟨w0, V, dom [Vc.one g (.cells cur 3 (0, 0))]⟩ V [Blk g (.cells cur 3 (0, 0))] w0 :=
      mem_start (σ0 := [Blk g (.cells cur 3 (0, 0))]) ⟨rfl, trivial⟩ h2 h3 h4
    have m2 := (m1.drawn (w0.drawn + n)).setBlk (k := 0) rfl (.cells (putCells (Value.int .i64) 0 (zs.mergeSort fun x y => decide (x ≤ y)).toArray cur) 3 (0, 0)) _ rfl
    have hext : ∀ (w : World), Ext w (grow w os) := fun w => ⟨rfl, rfl, rfl, by simp [grow], fun k hk => by simp [grow, Array.getElem?_append, hk]⟩
    have m3 := m2.ext (hext _)
    rw [hw]
    refine ⟨_, V, _, he, ⟨rfl, rfl, rfl⟩, ?_⟩
    obtain ⟨hs, s1, s2, s3⟩ := m3.own
    refine ⟨m3.os, m3.tape, m3.output, m3.size, m3.frame, m3.sub, m3.view, m3.vold, hs, ?_, s2, s3⟩
    match hs, s1 with
    | [x], s1 =>
      refine ⟨⟨by simp [hlen], .inr ⟨g, cap, _, rfl, s1.1, q1, q2, by simp [putCells]; omega, ?_⟩⟩, trivial⟩
      rw [Nat.mul_one]
      exact putCells_take hlen (by omega)
theorem putCells_take2 {zs : List Int} {cur : Array Value} {n : Nat} (hn : n ≤ zs.length) (hc : zs.length ≤ cur.size) : (putCells (Value.int .i64) 0 zs.toArray cur).toList.take n = (zs.take n).map (Value.int .i64) := by
  have h := putCells_take (zs := zs) (cur := cur) rfl hc
  have h2 := congrArg (List.take n) h
  rw [List.take_take, Nat.min_eq_left hn, ← List.map_take] at h2
  exact h2
theorem Compact_c {V : HV} {v : Value} {zs : List Int} (hsz : zs.length ≤ 9223372036854775807) :
    FnC Tryz.prog 56 [v] V [Gr 3 1 v zs.length (zs.map (Value.int .i64))] (fun u V' σ' => V' = V ∧ σ' = [Gr 3 1 u (Lib.compact zs).length ((Lib.compact zs).map (Value.int .i64))]) := by
  refine ⟨⟨_, Tryz.func56, by rfl, by rfl⟩, fun w0 hs0 h1 h2 h3 h4 => ?_⟩
  have m0 := mem_start h1 h2 h3 h4
  obtain ⟨h, hh⟩ : ∃ h, hs0 = [h] := by
    match hs0, h1 with
    | [h], _ => exact ⟨h, rfl⟩
  subst hh
  have hg : Gr 3 1 v zs.length (zs.map (Value.int .i64)) h := h1.1
  by_cases hz : zs = []
  · subst hz
    obtain ⟨a, c, e, _⟩ := hg.shape
    subst e
    refine (Tryz.slices_Compact_int_empty a c w0).mono fun e w' ⟨he, hw⟩ => ?_
    subst hw
    exact ⟨_, V, _, he, ⟨rfl, rfl⟩, by simpa [Lib.compact, Lib.compactUpTo] using m0⟩
  obtain ⟨hl, hg⟩ := hg
  rcases hg with ⟨rfl, hn, _⟩ | ⟨g, cap, cur, rfl, rfl, q1, q2, q3, q4⟩
  · exact absurd (List.eq_nil_of_length_eq_zero hn) hz
  · have hb : w0.heap[g]? = some (.cells cur 3 (0, 0)) := (h4 (Vc.one g (.cells cur 3 (0, 0))) (List.mem_singleton.2 rfl)).1 g _ (by show (if g = g then some _ else none) = _; rw [if_pos rfl])
    have hH : Holds (Value.int .i64) w0 g 0 zs.toArray := fun j hj => by
      have hj' : j < zs.length := by simpa using hj
      have e : cur[j]? = some (.int .i64 zs[j]) := by
        have := congrArg (fun l => l[j]?) q4
        simp only [List.getElem?_take, List.getElem?_map] at this
        rw [if_pos (by omega)] at this
        simpa [List.getElem?_eq_getElem hj'] using this
      refine ⟨?_, by simp [World.frozen?, hb]⟩
      simp [World.cell?, hb, e, hj']
    refine (Tryz.slices_Compact_int g 0 cap zs w0 hH hsz q1).mono fun e w' ⟨he, n, hw⟩ => ?_
    have hcl : (Lib.compact zs).length ≤ zs.length := by
      have : (Lib.compact zs).length ≤ ((List.range zs.length)).length := by
        unfold Lib.compact Lib.compactUpTo
        rw [List.length_map]
        exact List.length_filter_le ..
      simpa using this
    have hlen : (Lib.compact zs ++ List.replicate (zs.length - (Lib.compact zs).length) 0).length = zs.length := by rw [List.length_append, List.length_replicate]; omega
    rw [put_heap hb] at hw
    have m1 : Mem ⟨w0, V, dom [Vc.one g (.cells cur 3 (0, 0))]⟩ V [Blk g (.cells cur 3 (0, 0))] w0 :=
      mem_start (σ0 := [Blk g (.cells cur 3 (0, 0))]) ⟨rfl, trivial⟩ h2 h3 h4
    have m3 := (m1.drawn (w0.drawn + n)).setBlk (k := 0) rfl (.cells (putCells (Value.int .i64) 0 (Lib.compact zs ++ List.replicate (zs.length - (Lib.compact zs).length) 0).toArray cur) 3 (0, 0)) _ rfl
    rw [hw]
    refine ⟨_, V, _, he, ⟨rfl, rfl⟩, ?_⟩
    obtain ⟨hs, s1, s2, s3⟩ := m3.own
    refine ⟨m3.os, m3.tape, m3.output, m3.size, m3.frame, m3.sub, m3.view, m3.vold, hs, ?_, s2, s3⟩
    match hs, s1 with
    | [x], s1 =>
      refine ⟨⟨by simp, .inr ⟨g, cap, _, rfl, s1.1, by omega, q2, by simp [putCells]; omega, ?_⟩⟩, trivial⟩
      rw [Nat.mul_one, putCells_take2 (by omega) (by omega), List.take_left' rfl]
/- the order of leaves -/
theorem cmp_run {W : World} {pb bb c off n cap : Nat} {i j x y : Int} (h1 : ∀ q, (W.drewN q).cell? ⟨pb,0,none⟩ = some (.pointer (some ⟨bb,0,none⟩))) (h2 : ∀ q, (W.drewN q).cell? ⟨bb,0,none⟩ = some (.slice (some ⟨c, off, none⟩) n cap))
   (h3 : ∀ q, (W.drewN q).cell? ⟨c, off+i.toNat, none⟩ = some (.int .i64 x)) (h4 : ∀ q, (W.drewN q).cell? ⟨c, off+j.toNat, none⟩ = some (.int .i64 y)) (hi : 0 ≤ i) (hi2 : i < n) (hj : 0 ≤ j) (hj2 : j < n) (hw : IntKind.i64.wrap (x - y) = x - y) : Calls Tryz.prog 120 #[.int .i64 i, .int .i64 j, .pointer (some ⟨pb,0,none⟩)] W fun e w' => e = .returned (.int .i64 (x - y)) ∧ ∃ q, w' = W.drewN q := by
  go_enter Tryz.func120, Tryz.ntmps120
  go_wp2
  go_quiet (fail)
  go_wp2
  go_ret
  exact ⟨rfl, nq, rfl⟩
theorem sw_heap {α : Type} [Inhabited α] {enc : α → Value} {w : World} {g off m b : Nat} {dk : Array α} {os : Array Obj} (hb : b ≠ g) (hlt : b < w.heap.size) : (sortWorld enc w g off m dk os).heap[b]? = w.heap[b]? := by
  unfold sortWorld grow putRow mapBlock Sort.ahead
  have hs : b < (w.heap.modify g (onCells (putCells enc off dk))).size := by simpa using hlt
  show ((w.heap.modify g (onCells (putCells enc off dk))) ++ os)[b]? = _
  rw [Array.getElem?_append_left hs, Array.getElem?_eq_getElem hs, Array.getElem?_eq_getElem hlt, Array.getElem_modify, if_neg fun e => hb e.symm]
abbrev LfI (L : List Int) := { i : Int // 0 ≤ i ∧ i < L.length }
def enI {L : List Int} (x : LfI L) : Value := .int .i64 x.val
def cfI (L : List Int) (x y : LfI L) : Int := gi L x.val - gi L y.val
theorem swoI (L : List Int) : SWO (ltOf (cfI L)) where
  irrefl := fun x => by simp [ltOf, cfI]
  trans := fun x y z h1 h2 => by unfold ltOf cfI at *; have h1 := of_decide_eq_true h1; have h2 := of_decide_eq_true h2; exact decide_eq_true (by omega)
  ntrans := fun x y z h1 h2 => by unfold ltOf cfI at *; have h1 := of_decide_eq_false h1; have h2 := of_decide_eq_false h2; exact decide_eq_false (by omega)
theorem put_mapI {L : List Int} (zs : List (LfI L)) (c : Array Value) [Inhabited (LfI L)] : putCells enI 0 zs.toArray c = putCells (Value.int .i64) 0 (zs.map (·.val)).toArray c := by
  unfold putCells
  apply Array.ext
  · simp
  · intro k h1 h2
    simp only [Array.getElem_mapIdx, List.size_toArray, List.length_map]
    split
    · rename_i h
      have hk : k < zs.length := by simpa using h.2
      simp [enI, hk]
    · rfl
theorem putRow_mapI {L : List Int} [Inhabited (LfI L)] (zs : List (LfI L)) (w : World) (g : Nat) : putRow enI w g 0 zs.toArray = putRow (Value.int .i64) w g 0 (zs.map (·.val)).toArray := by
  unfold putRow
  congr 1
  funext c
  exact put_mapI zs c
theorem SortL_c {V : HV} {v u : Value} {zs L : List Int} {pb bb : Nat} {cs : List Value} (hp : Cells V pb [.pointer (some ⟨bb, 0, none⟩)]) (hbb : Cells V bb (u :: cs)) (hL : Ints .i64 V u L) (hz : ∀ z ∈ zs, 0 ≤ z ∧ z < L.length)
    (hin : ∀ z ∈ L, inR z) (hnod : ∀ i j : Int, 0 ≤ i → i < L.length → 0 ≤ j → j < L.length → gi L i = gi L j → i = j) (hsz : zs.length < 4611686018427387904) :
    FnC Tryz.prog 119 [v, .func (.func 120) #[] #[.pointer (some ⟨pb, 0, none⟩)]] V [Gr 3 1 v zs.length (zs.map (Value.int .i64))] (fun u V' σ' => u = .tuple #[] ∧ V' = V ∧ σ' = [Gr 3 1 v zs.length ((lvS L zs).map (Value.int .i64))]) := by
  refine ⟨⟨_, Tryz.func119, by rfl, by rfl⟩, fun w0 hs0 h1 h2 h3 h4 => ?_⟩
  have m0 := mem_start h1 h2 h3 h4
  obtain ⟨h, hh⟩ : ∃ h, hs0 = [h] := by
    match hs0, h1 with
    | [h], _ => exact ⟨h, rfl⟩
  subst hh
  have hg : Gr 3 1 v zs.length (zs.map (Value.int .i64)) h := h1.1
  obtain ⟨hl, hg⟩ := hg
  rcases hg with ⟨rfl, hn, _⟩ | ⟨g, cap, cur, rfl, rfl, q1, q2, q3, q4⟩
  · have hz : zs = [] := List.eq_nil_of_length_eq_zero hn
    subst hz
    refine (Tryz.slices_SortFunc_none (α := Int) none 0 _ w0).mono fun e w' ⟨he, hw⟩ => ?_
    subst hw
    exact ⟨_, V, _, he, ⟨rfl, rfl, rfl⟩, by simpa [lvS] using m0⟩
  by_cases hz0 : zs = []
  · subst hz0
    refine (Tryz.slices_SortFunc_none (α := Int) _ _ _ w0).mono fun e w' ⟨he, hw⟩ => ?_
    subst hw
    exact ⟨_, V, _, he, ⟨rfl, rfl, rfl⟩, by simpa [lvS] using m0⟩
  obtain ⟨z0, hz0⟩ := List.exists_mem_of_ne_nil _ hz0
  letI : Inhabited (LfI L) := ⟨⟨z0, hz z0 hz0⟩⟩
  let ds : List (LfI L) := zs.pmap (fun x h => (⟨x, h⟩ : LfI L)) hz
  have hds : ds.map (·.val) = zs := by simp [ds, List.map_pmap]
  have hdl : ds.length = zs.length := by simp [ds]
  have hdz : (ds.mergeSort fun x y => !(ltOf (cfI L)) y x).map (·.val) = lvS L zs := by
    unfold lvS
    rw [List.map_mergeSort (r := fun x y => !(ltOf (cfI L)) y x) (s := fun i j : Int => decide (gi L i ≤ gi L j)) (f := fun x : LfI L => x.val) (fun a _ b _ => by
      unfold ltOf cfI
      by_cases h : gi L a.val ≤ gi L b.val
      · rw [decide_eq_true h, decide_eq_false (by omega)]; rfl
      · rw [decide_eq_false h, decide_eq_true (by omega)]; rfl), hds]
  have hb : w0.heap[g]? = some (.cells cur 3 (0, 0)) := (h4 (Vc.one g (.cells cur 3 (0, 0))) (List.mem_singleton.2 rfl)).1 g _ (by show (if g = g then some _ else none) = _; rw [if_pos rfl])
  have hgV : V g = none := by
    rcases (h4 (Vc.one g (.cells cur 3 (0, 0))) (List.mem_singleton.2 rfl)).2 g with q | q
    · simp [Vc.one] at q
    · exact q
  have hH : Holds enI w0 g 0 ds.toArray := fun j hj => by
    have hj1 : j < ds.length := by simpa using hj
    have hj' : j < zs.length := by omega
    have e0 : (ds.toArray[j]!).val = zs[j] := by
      have := congrArg (fun l => l[j]?) hds
      simp only [List.getElem?_map, List.getElem?_eq_getElem hj', List.getElem?_eq_getElem hj1, Option.map_some, Option.some.injEq] at this
      simpa [hj1] using this
    have e : cur[j]? = some (.int .i64 zs[j]) := by
      have := congrArg (fun l => l[j]?) q4
      simp only [List.getElem?_take, List.getElem?_map] at this
      rw [if_pos (by omega)] at this
      simpa [List.getElem?_eq_getElem hj'] using this
    refine ⟨?_, by simp [World.frozen?, hb]⟩
    unfold enI
    rw [e0]
    simp [World.cell?, hb, e]
  -- what the comparison reads
  have hread : ∀ (b : Nat) (o : Obj), V b = some o → ∀ m os (dk : Array (LfI L)), (sortWorld enI w0 g 0 m dk os).heap[b]? = some o := fun b o hbo m os dk => by
    have hlt : b < w0.heap.size := hv_lt (w := w0) (h3 b o hbo)
    have := sw_heap (enc := enI) (w := w0) (g := g) (off := 0) (m := m) (dk := dk) (os := os) (b := b) (fun e => by rw [e, hgV] at hbo; cases hbo) hlt
    rw [this]; exact h3 b o hbo
  obtain ⟨a, c, rfl, hc1, hc2, hsl⟩ := hL
  have hLn : L.map (Value.int .i64) ≠ [] := fun e => by
    have := (hz z0 hz0)
    have e2 : L = [] := by simpa using e
    rw [e2] at this
    have e3 : ((([] : List Int).length : Nat) : Int) = 0 := rfl
    omega
  obtain ⟨lb, off, lc, T, fz, rfl, hlb, hle⟩ := hsl hLn
  obtain ⟨Tp, fp, hp⟩ := hp
  obtain ⟨Tb, fb, hbb⟩ := hbb
  have hcmp : CmpLays1 Tryz.prog 120 #[.pointer (some ⟨pb, 0, none⟩)] enI (cfI L) g 0 ds.toArray.size w0 := CmpReads.lays fun m os dk _ x y => by
    have hel : ∀ z : LfI L, ∀ q, ((sortWorld enI w0 g 0 m dk os).drewN q).cell? ⟨lb, off + z.val.toNat, none⟩ = some (.int .i64 (gi L z.val)) := fun z q => by
      have hzl : z.val.toNat < L.length := by have := z.2; omega
      have := hle z.val.toNat (by simpa using hzl)
      rw [List.getElem?_map, List.getElem?_eq_getElem hzl] at this
      simp only [Option.map_some] at this
      simp [World.cell?, hread lb _ hlb m os dk, this, List.getElem?_eq_getElem hzl]
    have hr : ∀ z : LfI L, inR (gi L z.val) := fun z => hin _ (gi_mem z.2.1 z.2.2)
    have r1 := hr x
    have r2 := hr y
    unfold inR at r1 r2
    exact cmp_run (i := x.val) (j := y.val) (x := gi L x.val) (y := gi L y.val) (n := L.length) (bb := bb) (c := lb) (off := off) (cap := c) (fun q => by simp [World.cell?, hread pb _ hp m os dk]) (fun q => by simp [World.cell?, hread bb _ hbb m os dk]) (hel x) (hel y) x.2.1 x.2.2 y.2.1 y.2.2 (IntWalk.i64_in _ (by omega))
  have eg : ∀ args w, (callFunc 120 args).run Tryz.prog w = .ok (.enter 120 args) w := enters_of Tryz.func120 (by kernel_rfl) rfl
  have call := Tryz.slices_SortFunc_total enI (fun _ => rfl) (cfI L) (swoI L) 120 #[.pointer (some ⟨pb, 0, none⟩)] g 0 cap ds.toArray w0 eg hcmp hH (hv_lt (w := w0) hb) (by simpa [hdl] using hsz) (fun x y a b => by
    unfold ltOf cfI at a b
    have a := of_decide_eq_false a
    have b := of_decide_eq_false b
    exact Subtype.ext (hnod _ _ x.2.1 x.2.2 y.2.1 y.2.2 (by omega)))
  rw [show ds.toArray.size = zs.length by simpa using hdl] at call
  refine call.mono fun e w' ⟨he, n, os, hw⟩ => ?_
  have hlen : (lvS L zs).length = zs.length := lvS_len L zs
  unfold sortWorld at hw
  rw [putRow_mapI, hdz, put_heap hb] at hw
  have m1 : Mem ⟨w0, V, dom [Vc.one g (.cells cur 3 (0, 0))]⟩ V [Blk g (.cells cur 3 (0, 0))] w0 :=
    mem_start (σ0 := [Blk g (.cells cur 3 (0, 0))]) ⟨rfl, trivial⟩ h2 h3 h4
  have m2 := (m1.drawn (w0.drawn + n)).setBlk (k := 0) rfl (.cells (putCells (Value.int .i64) 0 (lvS L zs).toArray cur) 3 (0, 0)) _ rfl
  have hext : ∀ (w : World), Ext w (grow w os) := fun w => ⟨rfl, rfl, rfl, by simp [grow], fun k hk => by simp [grow, Array.getElem?_append, hk]⟩
  have m3 := m2.ext (hext _)
  rw [hw]
  refine ⟨_, V, _, he, ⟨rfl, rfl, rfl⟩, ?_⟩
  obtain ⟨hs, s1, s2, s3⟩ := m3.own
  refine ⟨m3.os, m3.tape, m3.output, m3.size, m3.frame, m3.sub, m3.view, m3.vold, hs, ?_, s2, s3⟩
  match hs, s1 with
  | [x], s1 =>
    refine ⟨⟨by simp [hlen], .inr ⟨g, cap, _, rfl, s1.1, q1, q2, by simp [putCells]; omega, ?_⟩⟩, trivial⟩
    rw [Nat.mul_one]
    exact putCells_take hlen (by omega)
end Go.Proofs.YtkmhjcjpohpiaaaGreat
