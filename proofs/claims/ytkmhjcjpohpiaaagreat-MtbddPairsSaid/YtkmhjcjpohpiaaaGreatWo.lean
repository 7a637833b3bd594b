/- Wo. -/
import Derived.Test.YtkmhjcjpohpiaaaGreatWb
import Derived.Test.YtkmhjcjpohpiaaaGreatWm
import Derived.Test.YtkmhjcjpohpiaaaGreatTy
import Derived.Test.YtkmhjcjpohpiaaaGreatSh
import Derived.Lib.SlicesCompact
import Derived.Walk
import Derived.Deep.QuietTactic
import Derived.BigQuiet
import Derived.RangeFuncBox
import Derived.RangeFuncLeaves
import Derived.RangeFuncNested
import Derived.Shelf.Abstract
import Derived.WalkKit
import Derived.OwnWalkIn
import Derived.TacticsInMore
import Derived.LoopNIn
import Derived.LoopIn
import Derived.Maps.AppendAt
import Derived.Test.YtkmhjcjpohpiaaaGreatWn
import Derived.Test.YtkmhjcjpohpiaaaGreatProg
import Derived.StillTailTactics
import Derived.RangeFuncRecord
import Derived.Shelf.SlSortCmp.WholeK
import Derived.Test.YtkmhjcjpohpiaaaGreatVcA
import Derived.Laws.CopyRow
namespace Go.Proofs.YtkmhjcjpohpiaaaGreat
open Go Go.Vc Go.Sort Go.RowKit
theorem put_heap {w : World} {g n : Nat} {zs : List Int} {E : TypeId} {cur : Array Value} (hb : w.heap[g]? = some (.cells cur E (0, 0))) :
    putRow (Value.int .i64) (Sort.ahead w n) g 0 zs.toArray = { ({ w with drawn := w.drawn + n } : World) with heap := w.heap.setIfInBounds g (.cells (putCells (Value.int .i64) 0 zs.toArray cur) E (0, 0)) } := by
  have hlt : g < w.heap.size := hv_lt (w := w) hb
  have hg : w.heap[g] = .cells cur E (0, 0) := by rw [Array.getElem?_eq_getElem hlt] at hb; exact Option.some.inj hb
  unfold putRow mapBlock Sort.ahead
  congr 1
  apply Array.ext
  · simp
  · intro i h1 h2
    simp only [Array.getElem_modify]
    by_cases hi : g = i
    · subst hi; simp [hg, onCells]
    · rw [if_neg hi, Array.getElem_setIfInBounds_ne _ hi]
theorem putCells_take {zs : List Int} {cur : Array Value} {n : Nat} (hn : zs.length = n) (hc : n ≤ cur.size) : (putCells (Value.int .i64) 0 zs.toArray cur).toList.take n = zs.map (Value.int .i64) := by
  apply List.ext_getElem
  · simp [putCells]; omega
  · intro i h1 h2
    simp at h1 h2
    have hi : i < zs.length := by omega
    simp [putCells, List.getElem_take, hi]
theorem Sort_c {V : HV} {v : Value} {zs : List Int} (hsz : zs.length < 4611686018427387904) :
    FnC Tryz.prog 45 [v] V [Gr 3 1 v zs.length (zs.map (Value.int .i64))] (fun u V' σ' => u = .tuple #[] ∧ V' = V ∧ σ' = [Gr 3 1 v zs.length ((zs.mergeSort fun x y => decide (x ≤ y)).map (Value.int .i64))]) := by
  refine ⟨⟨_, Tryz.func45, by rfl, by rfl⟩, fun w0 hs0 h1 h2 h3 h4 => ?_⟩
  have m0 := mem_start h1 h2 h3 h4
  obtain ⟨h, hh⟩ : ∃ h, hs0 = [h] := by
    match hs0, h1 with
    | [h], _ => exact ⟨h, rfl⟩
  subst hh
  have hg : Gr 3 1 v zs.length (zs.map (Value.int .i64)) h := h1.1
  obtain ⟨hl, hg⟩ := hg
  rcases hg with ⟨rfl, hn, _⟩ | ⟨g, cap, cur, rfl, rfl, q1, q2, q3, q4⟩
  · have hz : zs = [] := List.eq_nil_of_length_eq_zero hn
    subst hz
    refine (Tryz.slices_Sort_int_none none 0 w0).mono fun e w' ⟨he, hw⟩ => ?_
    subst hw
    exact ⟨_, V, _, he, ⟨rfl, rfl, rfl⟩, by simpa using m0⟩
  · have hb : w0.heap[g]? = some (.cells cur 3 (0, 0)) := (h4 (Vc.one g (.cells cur 3 (0, 0))) (List.mem_singleton.2 rfl)).1 g _ (by show (if g = g then some _ else none) = _; rw [if_pos rfl])
    have hH : Holds (Value.int .i64) w0 g 0 zs.toArray := fun j hj => by
      have hj' : j < zs.length := by simpa using hj
      have e : cur[j]? = some (.int .i64 zs[j]) := by
        have := congrArg (fun l => l[j]?) q4
        simp only [List.getElem?_take, List.getElem?_map] at this
        rw [if_pos (by omega)] at this
        simpa [List.getElem?_eq_getElem hj'] using this
      refine ⟨?_, by simp [World.frozen?, hb]⟩
      simp [World.cell?, hb, e, hj']
    refine (Tryz.slices_Sort_int g 0 cap zs w0 hH (hv_lt (w := w0) hb) hsz).mono fun e w' ⟨he, n, os, hw⟩ => ?_
    have hlen : (zs.mergeSort fun x y => decide (x ≤ y)).length = zs.length := List.length_mergeSort _
    rw [put_heap hb] at hw
    have m1 : Mem ⟨w0, V, dom [Vc.one g (.cells cur 3 (0, 0))]⟩ V [Blk g (.cells cur 3 (0, 0))] w0 :=
      mem_start (σ0 := [Blk g (.cells cur 3 (0, 0))]) ⟨rfl, trivial⟩ h2 h3 h4
    have m2 := (m1.drawn (w0.drawn + n)).setBlk (k := 0) rfl (.cells (putCells (Value.int .i64) 0 (zs.mergeSort fun x y => decide (x ≤ y)).toArray cur) 3 (0, 0)) _ rfl
    have hext : ∀ (w : World), Ext w (grow w os) := fun w => ⟨rfl, rfl, rfl, by simp [grow], fun k hk => by simp [grow, Array.getElem?_append, hk]⟩
    have m3 := m2.ext (hext _)
    rw [hw]
    refine ⟨_, V, _, he, ⟨rfl, rfl, rfl⟩, ?_⟩
    obtain ⟨hs, s1, s2, s3⟩ := m3.own
    refine ⟨m3.os, m3.tape, m3.output, m3.size, m3.frame, m3.sub, m3.view, m3.vold, hs, ?_, s2, s3⟩
    match hs, s1 with
    | [x], s1 =>
      refine ⟨⟨by simp [hlen], .inr ⟨g, cap, _, rfl, s1.1, q1, q2, by simp [putCells]; omega, ?_⟩⟩, trivial⟩
      rw [Nat.mul_one]
      exact putCells_take hlen (by omega)
theorem putCells_take2 {zs : List Int} {cur : Array Value} {n : Nat} (hn : n ≤ zs.length) (hc : zs.length ≤ cur.size) : (putCells (Value.int .i64) 0 zs.toArray cur).toList.take n = (zs.take n).map (Value.int .i64) := by
  have h := putCells_take (zs := zs) (cur := cur) rfl hc
  have h2 := congrArg (List.take n) h
  rw [List.take_take, Nat.min_eq_left hn, ← List.map_take] at h2
  exact h2
theorem Compact_c {V : HV} {v : Value} {zs : List Int} (hsz : zs.length ≤ 9223372036854775807) :
    FnC Tryz.prog 56 [v] V [Gr 3 1 v zs.length (zs.map (Value.int .i64))] (fun u V' σ' => V' = V ∧ σ' = [Gr 3 1 u (Lib.compact zs).length ((Lib.compact zs).map (Value.int .i64))]) := by
  refine ⟨⟨_, Tryz.func56, by rfl, by rfl⟩, fun w0 hs0 h1 h2 h3 h4 => ?_⟩
  have m0 := mem_start h1 h2 h3 h4
  obtain ⟨h, hh⟩ : ∃ h, hs0 = [h] := by
    match hs0, h1 with
    | [h], _ => exact ⟨h, rfl⟩
  subst hh
  have hg : Gr 3 1 v zs.length (zs.map (Value.int .i64)) h := h1.1
  by_cases hz : zs = []
  · subst hz
    obtain ⟨a, c, e, _⟩ := hg.shape
    subst e
    refine (Tryz.slices_Compact_int_empty a c w0).mono fun e w' ⟨he, hw⟩ => ?_
    subst hw
    exact ⟨_, V, _, he, ⟨rfl, rfl⟩, by simpa [Lib.compact, Lib.compactUpTo] using m0⟩
  obtain ⟨hl, hg⟩ := hg
  rcases hg with ⟨rfl, hn, _⟩ | ⟨g, cap, cur, rfl, rfl, q1, q2, q3, q4⟩
  · exact absurd (List.eq_nil_of_length_eq_zero hn) hz
  · have hb : w0.heap[g]? = some (.cells cur 3 (0, 0)) := (h4 (Vc.one g (.cells cur 3 (0, 0))) (List.mem_singleton.2 rfl)).1 g _ (by show (if g = g then some _ else none) = _; rw [if_pos rfl])
    have hH : Holds (Value.int .i64) w0 g 0 zs.toArray := fun j hj => by
      have hj' : j < zs.length := by simpa using hj
      have e : cur[j]? = some (.int .i64 zs[j]) := by
        have := congrArg (fun l => l[j]?) q4
        simp only [List.getElem?_take, List.getElem?_map] at this
        rw [if_pos (by omega)] at this
        simpa [List.getElem?_eq_getElem hj'] using this
      refine ⟨?_, by simp [World.frozen?, hb]⟩
      simp [World.cell?, hb, e, hj']
    refine (Tryz.slices_Compact_int g 0 cap zs w0 hH hsz q1).mono fun e w' ⟨he, n, hw⟩ => ?_
    have hcl : (Lib.compact zs).length ≤ zs.length := by
      have : (Lib.compact zs).length ≤ ((List.range zs.length)).length := by
        unfold Lib.compact Lib.compactUpTo
        rw [List.length_map]
        exact List.length_filter_le ..
      simpa using this
    have hlen : (Lib.compact zs ++ List.replicate (zs.length - (Lib.compact zs).length) 0).length = zs.length := by rw [List.length_append, List.length_replicate]; omega
    rw [put_heap hb] at hw
    have m1 : Mem ⟨w0, V, dom [Vc.one g (.cells cur 3 (0, 0))]⟩ V [Blk g (.cells cur 3 (0, 0))] w0 :=
      mem_start (σ0 := [Blk g (.cells cur 3 (0, 0))]) ⟨rfl, trivial⟩ h2 h3 h4
    have m3 := (m1.drawn (w0.drawn + n)).setBlk (k := 0) rfl (.cells (putCells (Value.int .i64) 0 (Lib.compact zs ++ List.replicate (zs.length - (Lib.compact zs).length) 0).toArray cur) 3 (0, 0)) _ rfl
    rw [hw]
    refine ⟨_, V, _, he, ⟨rfl, rfl⟩, ?_⟩
    obtain ⟨hs, s1, s2, s3⟩ := m3.own
    refine ⟨m3.os, m3.tape, m3.output, m3.size, m3.frame, m3.sub, m3.view, m3.vold, hs, ?_, s2, s3⟩
    match hs, s1 with
    | [x], s1 =>
      refine ⟨⟨by simp, .inr ⟨g, cap, _, rfl, s1.1, by omega, q2, by simp [putCells]; omega, ?_⟩⟩, trivial⟩
      rw [Nat.mul_one, putCells_take2 (by omega) (by omega), List.take_left' rfl]
theorem cmp_run {W : World} {pb bb c off n cap : Nat} {i j x y : Int} (h1 : ∀ q, (W.drewN q).cell? ⟨pb,0,none⟩ = some (.pointer (some ⟨bb,0,none⟩))) (h2 : ∀ q, (W.drewN q).cell? ⟨bb,0,none⟩ = some (.slice (some ⟨c, off, none⟩) n cap))
   (h3 : ∀ q, (W.drewN q).cell? ⟨c, off+i.toNat, none⟩ = some (.int .i64 x)) (h4 : ∀ q, (W.drewN q).cell? ⟨c, off+j.toNat, none⟩ = some (.int .i64 y)) (hi : 0 ≤ i) (hi2 : i < n) (hj : 0 ≤ j) (hj2 : j < n) (hw : IntKind.i64.wrap (x - y) = x - y) : Calls Tryz.prog 120 #[.int .i64 i, .int .i64 j, .pointer (some ⟨pb,0,none⟩)] W fun e w' => e = .returned (.int .i64 (x - y)) ∧ ∃ q, w' = W.drewN q := by
  go_enter Tryz.func120, Tryz.ntmps120
  go_wp2
  go_quiet (fail)
  go_wp2
  go_ret
  exact ⟨rfl, nq, rfl⟩
theorem sw_heap {α : Type} [Inhabited α] {enc : α → Value} {w : World} {g off m b : Nat} {dk : Array α} {os : Array Obj} (hb : b ≠ g) (hlt : b < w.heap.size) : (sortWorld enc w g off m dk os).heap[b]? = w.heap[b]? := by
  unfold sortWorld grow putRow mapBlock Sort.ahead
  have hs : b < (w.heap.modify g (onCells (putCells enc off dk))).size := by simpa using hlt
  show ((w.heap.modify g (onCells (putCells enc off dk))) ++ os)[b]? = _
  rw [Array.getElem?_append_left hs, Array.getElem?_eq_getElem hs, Array.getElem?_eq_getElem hlt, Array.getElem_modify, if_neg fun e => hb e.symm]
abbrev LfI (L : List Int) := { i : Int // 0 ≤ i ∧ i < L.length }
def enI {L : List Int} (x : LfI L) : Value := .int .i64 x.val
def cfI (L : List Int) (x y : LfI L) : Int := gi L x.val - gi L y.val
theorem swoI (L : List Int) : SWO (ltOf (cfI L)) where
  irrefl := fun x => by simp [ltOf, cfI]
  trans := fun x y z h1 h2 => by unfold ltOf cfI at *; have h1 := of_decide_eq_true h1; have h2 := of_decide_eq_true h2; exact decide_eq_true (by omega)
  ntrans := fun x y z h1 h2 => by unfold ltOf cfI at *; have h1 := of_decide_eq_false h1; have h2 := of_decide_eq_false h2; exact decide_eq_false (by omega)
theorem put_mapI {L : List Int} (zs : List (LfI L)) (c : Array Value) [Inhabited (LfI L)] : putCells enI 0 zs.toArray c = putCells (Value.int .i64) 0 (zs.map (·.val)).toArray c := by
  unfold putCells
  apply Array.ext
  · simp
  · intro k h1 h2
    simp only [Array.getElem_mapIdx, List.size_toArray, List.length_map]
    split
    · rename_i h
      have hk : k < zs.length := by simpa using h.2
      simp [enI, hk]
    · rfl
theorem putRow_mapI {L : List Int} [Inhabited (LfI L)] (zs : List (LfI L)) (w : World) (g : Nat) : putRow enI w g 0 zs.toArray = putRow (Value.int .i64) w g 0 (zs.map (·.val)).toArray := by
  unfold putRow
  congr 1
  funext c
  exact put_mapI zs c
theorem SortL_c {V : HV} {v u : Value} {zs L : List Int} {pb bb : Nat} {cs : List Value} (hp : Cells V pb [.pointer (some ⟨bb, 0, none⟩)]) (hbb : Cells V bb (u :: cs)) (hL : Ints .i64 V u L) (hz : ∀ z ∈ zs, 0 ≤ z ∧ z < L.length)
    (hin : ∀ z ∈ L, inR z) (hnod : ∀ i j : Int, 0 ≤ i → i < L.length → 0 ≤ j → j < L.length → gi L i = gi L j → i = j) (hsz : zs.length < 4611686018427387904) :
    FnC Tryz.prog 119 [v, .func (.func 120) #[] #[.pointer (some ⟨pb, 0, none⟩)]] V [Gr 3 1 v zs.length (zs.map (Value.int .i64))] (fun u V' σ' => u = .tuple #[] ∧ V' = V ∧ σ' = [Gr 3 1 v zs.length ((lvS L zs).map (Value.int .i64))]) := by
  refine ⟨⟨_, Tryz.func119, by rfl, by rfl⟩, fun w0 hs0 h1 h2 h3 h4 => ?_⟩
  have m0 := mem_start h1 h2 h3 h4
  obtain ⟨h, hh⟩ : ∃ h, hs0 = [h] := by
    match hs0, h1 with
    | [h], _ => exact ⟨h, rfl⟩
  subst hh
  have hg : Gr 3 1 v zs.length (zs.map (Value.int .i64)) h := h1.1
  obtain ⟨hl, hg⟩ := hg
  rcases hg with ⟨rfl, hn, _⟩ | ⟨g, cap, cur, rfl, rfl, q1, q2, q3, q4⟩
  · have hz : zs = [] := List.eq_nil_of_length_eq_zero hn
    subst hz
    refine (Tryz.slices_SortFunc_none (α := Int) none 0 _ w0).mono fun e w' ⟨he, hw⟩ => ?_
    subst hw
    exact ⟨_, V, _, he, ⟨rfl, rfl, rfl⟩, by simpa [lvS] using m0⟩
  by_cases hz0 : zs = []
  · subst hz0
    refine (Tryz.slices_SortFunc_none (α := Int) _ _ _ w0).mono fun e w' ⟨he, hw⟩ => ?_
    subst hw
    exact ⟨_, V, _, he, ⟨rfl, rfl, rfl⟩, by simpa [lvS] using m0⟩
  obtain ⟨z0, hz0⟩ := List.exists_mem_of_ne_nil _ hz0
  letI : Inhabited (LfI L) := ⟨⟨z0, hz z0 hz0⟩⟩
  let ds : List (LfI L) := zs.pmap (fun x h => (⟨x, h⟩ : LfI L)) hz
  have hds : ds.map (·.val) = zs := by simp [ds, List.map_pmap]
  have hdl : ds.length = zs.length := by simp [ds]
  have hdz : (ds.mergeSort fun x y => !(ltOf (cfI L)) y x).map (·.val) = lvS L zs := by
    unfold lvS
    rw [List.map_mergeSort (r := fun x y => !(ltOf (cfI L)) y x) (s := fun i j : Int => decide (gi L i ≤ gi L j)) (f := fun x : LfI L => x.val) (fun a _ b _ => by
      unfold ltOf cfI
      by_cases h : gi L a.val ≤ gi L b.val
      · rw [decide_eq_true h, decide_eq_false (by omega)]; rfl
      · rw [decide_eq_false h, decide_eq_true (by omega)]; rfl), hds]
  have hb : w0.heap[g]? = some (.cells cur 3 (0, 0)) := (h4 (Vc.one g (.cells cur 3 (0, 0))) (List.mem_singleton.2 rfl)).1 g _ (by show (if g = g then some _ else none) = _; rw [if_pos rfl])
  have hgV : V g = none := by
    rcases (h4 (Vc.one g (.cells cur 3 (0, 0))) (List.mem_singleton.2 rfl)).2 g with q | q
    · simp [Vc.one] at q
    · exact q
  have hH : Holds enI w0 g 0 ds.toArray := fun j hj => by
    have hj1 : j < ds.length := by simpa using hj
    have hj' : j < zs.length := by omega
    have e0 : (ds.toArray[j]!).val = zs[j] := by
      have := congrArg (fun l => l[j]?) hds
      simp only [List.getElem?_map, List.getElem?_eq_getElem hj', List.getElem?_eq_getElem hj1, Option.map_some, Option.some.injEq] at this
      simpa [hj1] using this
    have e : cur[j]? = some (.int .i64 zs[j]) := by
      have := congrArg (fun l => l[j]?) q4
      simp only [List.getElem?_take, List.getElem?_map] at this
      rw [if_pos (by omega)] at this
      simpa [List.getElem?_eq_getElem hj'] using this
    refine ⟨?_, by simp [World.frozen?, hb]⟩
    unfold enI
    rw [e0]
    simp [World.cell?, hb, e]
  -- what the comparison reads
  have hread : ∀ (b : Nat) (o : Obj), V b = some o → ∀ m os (dk : Array (LfI L)), (sortWorld enI w0 g 0 m dk os).heap[b]? = some o := fun b o hbo m os dk => by
    have hlt : b < w0.heap.size := hv_lt (w := w0) (h3 b o hbo)
    have := sw_heap (enc := enI) (w := w0) (g := g) (off := 0) (m := m) (dk := dk) (os := os) (b := b) (fun e => by rw [e, hgV] at hbo; cases hbo) hlt
    rw [this]; exact h3 b o hbo
  obtain ⟨a, c, rfl, hc1, hc2, hsl⟩ := hL
  have hLn : L.map (Value.int .i64) ≠ [] := fun e => by
    have := (hz z0 hz0)
    have e2 : L = [] := by simpa using e
    rw [e2] at this
    have e3 : ((([] : List Int).length : Nat) : Int) = 0 := rfl
    omega
  obtain ⟨lb, off, lc, T, fz, rfl, hlb, hle⟩ := hsl hLn
  obtain ⟨Tp, fp, hp⟩ := hp
  obtain ⟨Tb, fb, hbb⟩ := hbb
  have hcmp : CmpLays1 Tryz.prog 120 #[.pointer (some ⟨pb, 0, none⟩)] enI (cfI L) g 0 ds.toArray.size w0 := CmpReads.lays fun m os dk _ x y => by
    have hel : ∀ z : LfI L, ∀ q, ((sortWorld enI w0 g 0 m dk os).drewN q).cell? ⟨lb, off + z.val.toNat, none⟩ = some (.int .i64 (gi L z.val)) := fun z q => by
      have hzl : z.val.toNat < L.length := by have := z.2; omega
      have := hle z.val.toNat (by simpa using hzl)
      rw [List.getElem?_map, List.getElem?_eq_getElem hzl] at this
      simp only [Option.map_some] at this
      simp [World.cell?, hread lb _ hlb m os dk, this, List.getElem?_eq_getElem hzl]
    have hr : ∀ z : LfI L, inR (gi L z.val) := fun z => hin _ (gi_mem z.2.1 z.2.2)
    have r1 := hr x
    have r2 := hr y
    unfold inR at r1 r2
    exact cmp_run (i := x.val) (j := y.val) (x := gi L x.val) (y := gi L y.val) (n := L.length) (bb := bb) (c := lb) (off := off) (cap := c) (fun q => by simp [World.cell?, hread pb _ hp m os dk]) (fun q => by simp [World.cell?, hread bb _ hbb m os dk]) (hel x) (hel y) x.2.1 x.2.2 y.2.1 y.2.2 (IntWalk.i64_in _ (by omega))
  have eg : ∀ args w, (callFunc 120 args).run Tryz.prog w = .ok (.enter 120 args) w := enters_of Tryz.func120 (by kernel_rfl) rfl
  have call := Tryz.slices_SortFunc_total enI (fun _ => rfl) (cfI L) (swoI L) 120 #[.pointer (some ⟨pb, 0, none⟩)] g 0 cap ds.toArray w0 eg hcmp hH (hv_lt (w := w0) hb) (by simpa [hdl] using hsz) (fun x y a b => by
    unfold ltOf cfI at a b
    have a := of_decide_eq_false a
    have b := of_decide_eq_false b
    exact Subtype.ext (hnod _ _ x.2.1 x.2.2 y.2.1 y.2.2 (by omega)))
  rw [show ds.toArray.size = zs.length by simpa using hdl] at call
  refine call.mono fun e w' ⟨he, n, os, hw⟩ => ?_
  have hlen : (lvS L zs).length = zs.length := lvS_len L zs
  unfold sortWorld at hw
  rw [putRow_mapI, hdz, put_heap hb] at hw
  have m1 : Mem ⟨w0, V, dom [Vc.one g (.cells cur 3 (0, 0))]⟩ V [Blk g (.cells cur 3 (0, 0))] w0 :=
    mem_start (σ0 := [Blk g (.cells cur 3 (0, 0))]) ⟨rfl, trivial⟩ h2 h3 h4
  have m2 := (m1.drawn (w0.drawn + n)).setBlk (k := 0) rfl (.cells (putCells (Value.int .i64) 0 (lvS L zs).toArray cur) 3 (0, 0)) _ rfl
  have hext : ∀ (w : World), Ext w (grow w os) := fun w => ⟨rfl, rfl, rfl, by simp [grow], fun k hk => by simp [grow, Array.getElem?_append, hk]⟩
  have m3 := m2.ext (hext _)
  rw [hw]
  refine ⟨_, V, _, he, ⟨rfl, rfl, rfl⟩, ?_⟩
  obtain ⟨hs, s1, s2, s3⟩ := m3.own
  refine ⟨m3.os, m3.tape, m3.output, m3.size, m3.frame, m3.sub, m3.view, m3.vold, hs, ?_, s2, s3⟩
  match hs, s1 with
  | [x], s1 =>
    refine ⟨⟨by simp [hlen], .inr ⟨g, cap, _, rfl, s1.1, q1, q2, by simp [putCells]; omega, ?_⟩⟩, trivial⟩
    rw [Nat.mul_one]
    exact putCells_take hlen (by omega)
end Go.Proofs.YtkmhjcjpohpiaaaGreat

namespace Go.Vc
open Go.RowKit
def joinL : List HV → HV
  | [] => fun _ => none
  | h :: hs => plus h (joinL hs)
/-- Pieces as one piece. -/
def Pk (σ : Res) : Asrt := fun h => ∃ hs, Sat σ hs ∧ hs.Pairwise Disj ∧ h = joinL hs
/-- A piece of one of several forms. -/
def ExA {α : Type} (A : α → Asrt) : Asrt := fun h => ∃ a, A a h
theorem plus_none {g h : HV} {b : Nat} : plus g h b = none ↔ g b = none ∧ h b = none := by
  unfold plus
  cases g b with
  | some o => simp
  | none => simp
theorem joinL_none {b : Nat} : ∀ {hs : List HV}, joinL hs b = none ↔ ∀ h ∈ hs, h b = none
  | [] => by simp [joinL]
  | h :: hs => by
    show plus h (joinL hs) b = none ↔ _
    rw [plus_none, joinL_none (hs := hs)]; simp
theorem disj_joinL {k : HV} {hs : List HV} (h : ∀ x ∈ hs, Disj x k) : Disj (joinL hs) k := fun b => by
  by_cases q : k b = none
  · exact .inr q
  · exact .inl (joinL_none.2 fun x hx => (h x hx b).resolve_right q)
theorem sub_joinL : ∀ {hs : List HV}, hs.Pairwise Disj → ∀ h ∈ hs, Sub h (joinL hs)
  | [], _, _, hm => by cases hm
  | x :: hs, hp, h, hm => by
    have hp := List.pairwise_cons.1 hp
    rcases List.mem_cons.1 hm with e | e
    · rw [e]; exact sub_plus_left _ _
    · have hd : Disj x (joinL hs) := (disj_joinL fun y hy => (hp.1 y hy).symm).symm
      exact (sub_joinL hp.2 h e).trans (sub_plus_right hd)
theorem joinL_sub {k : HV} : ∀ {hs : List HV}, (∀ h ∈ hs, Sub h k) → Sub (joinL hs) k
  | [], _ => fun b o h => by cases h
  | x :: hs, h => sub_plus (h x (List.mem_cons_self ..)) (joinL_sub fun y hy => h y (List.mem_cons_of_mem _ hy))
theorem Mem.unpack {C : Cx} {V : HV} {σ τ : Res} {w : World} (m : Mem C V (Pk σ :: τ) w) : Mem C V (σ ++ τ) w := by
  obtain ⟨hs, h1, h2, h3⟩ := m.own
  match hs, h1, h2, h3 with
  | x :: ht, h1, h2, h3 =>
    obtain ⟨ks, k1, k2, rfl⟩ := h1.1
    have h2 := List.pairwise_cons.1 h2
    have hx := h3 _ (List.mem_cons_self ..)
    refine ⟨m.os, m.tape, m.output, m.size, m.frame, m.sub, m.view, m.vold, ks ++ ht, k1.append h1.2, ?_, ?_⟩
    · rw [List.pairwise_append]
      exact ⟨k2, h2.2, fun a ha b hb c => (h2.1 b hb c).imp (fun q => joinL_none.1 q a ha) id⟩
    · intro h hh
      rcases List.mem_append.1 hh with q | q
      · have s := sub_joinL k2 h q
        refine ⟨s.trans hx.1, fun b => (hx.2.1 b).imp (fun z => joinL_none.1 z h q) id, fun b hb hne => hx.2.2 b hb fun z => hne (joinL_none.1 z h q)⟩
      · exact h3 h (List.mem_cons_of_mem _ q)
theorem Mem.pack {C : Cx} {V : HV} {σ τ : Res} {w : World} (m : Mem C V (σ ++ τ) w) : Mem C V (Pk σ :: τ) w := by
  obtain ⟨hs, h1, h2, h3⟩ := m.own
  obtain ⟨ks, ht, rfl, k1, k2⟩ := h1.split
  have h2 := List.pairwise_append.1 h2
  refine ⟨m.os, m.tape, m.output, m.size, m.frame, m.sub, m.view, m.vold, joinL ks :: ht, ⟨⟨ks, k1, h2.1, rfl⟩, k2⟩, List.pairwise_cons.2 ⟨fun y hy => disj_joinL fun x hx => h2.2.2 x hx y hy, h2.2.1⟩, ?_⟩
  intro h hh
  rcases List.mem_cons.1 hh with q | q
  · rw [q]
    refine ⟨joinL_sub fun x hx => (h3 x (List.mem_append_left _ hx)).1, disj_joinL fun x hx => (h3 x (List.mem_append_left _ hx)).2.1, fun b hb hne => ?_⟩
    apply Classical.byContradiction
    intro z
    exact hne (joinL_none.2 fun x hx => Classical.byContradiction fun y => z ((h3 x (List.mem_append_left _ hx)).2.2 b hb y))
  · exact h3 h (List.mem_append_right _ q)
theorem Mem.ex {α : Type} {A : α → Asrt} {C : Cx} {V : HV} {τ : Res} {w : World} (m : Mem C V (ExA A :: τ) w) : ∃ a, Mem C V (A a :: τ) w := by
  obtain ⟨hs, h1, h2, h3⟩ := m.own
  match hs, h1, h2, h3 with
  | x :: ht, h1, h2, h3 =>
    obtain ⟨a, ha⟩ := h1.1
    exact ⟨a, m.os, m.tape, m.output, m.size, m.frame, m.sub, m.view, m.vold, x :: ht, ⟨ha, h1.2⟩, h2, h3⟩
theorem Mem.exI {α : Type} {A : α → Asrt} {a : α} {C : Cx} {V : HV} {τ : Res} {w : World} (m : Mem C V (A a :: τ) w) : Mem C V (ExA A :: τ) w := by
  obtain ⟨hs, h1, h2, h3⟩ := m.own
  match hs, h1, h2, h3 with
  | x :: ht, h1, h2, h3 => exact ⟨m.os, m.tape, m.output, m.size, m.frame, m.sub, m.view, m.vold, x :: ht, ⟨⟨a, h1.1⟩, h1.2⟩, h2, h3⟩
/-- Pieces that depend on a thing, as one piece that does not say on which. -/
abbrev PkE {α : Type} (σ : α → Res) : Asrt := ExA fun a => Pk (σ a)
section
variable {P : Program} {C : Cx} {N : Nat} {K : K3} {Q : Ex → K3} {env : Env} {V : HV} {τ τ' : Res} {c : Code} {α : Type}
theorem vc_unpack (σ : α → Res) (hp : τ'.Perm (PkE σ :: τ)) (h : ∀ a, VC P C N c K Q env V (σ a ++ τ)) : VC P C N c K Q env V τ' := fun a w hf hm => by
  obtain ⟨x, hx⟩ := (hm.perm hp).ex
  exact h x a w hf hx.unpack
theorem vc_pack (σ : α → Res) (x : α) (hp : τ'.Perm (σ x ++ τ)) (h : VC P C N c K Q env V (PkE σ :: τ)) : VC P C N c K Q env V τ' := fun a w hf hm =>
  h a w hf (Mem.exI (a := x) (hm.perm hp).pack)
end
theorem dom_one (hs : List HV) : dom [joinL hs] = dom hs := by
  funext b
  apply propext
  constructor
  · rintro ⟨h, hm, hne⟩
    rw [List.mem_singleton.1 hm] at hne
    exact Classical.byContradiction fun z => hne (joinL_none.2 fun x hx => Classical.byContradiction fun y => z ⟨x, hx, y⟩)
  · rintro ⟨h, hm, hne⟩
    exact ⟨_, List.mem_singleton.2 rfl, fun z => hne (joinL_none.1 z h hm)⟩
section
variable {P : Program} {f : FuncId} {args : List Value} {V : HV}
/-- A function that looks into a state, for callers that do not. -/
theorem FnC.packed {α β γ : Type} {σ : α → Res} {τ : γ → β → Res} {Ψ : Value → HV → γ → Prop} (a0 : α) (h : ∀ a, FnC P f args V (σ a) (fun v V' σ' => ∃ g b, σ' = τ g b ∧ Ψ v V' g)) : FnC P f args V [PkE σ] (fun v V' σ' => ∃ g, σ' = [PkE (τ g)] ∧ Ψ v V' g) := by
  refine ⟨(h a0).ok, fun w0 hs0 h1 h2 h3 h4 => ?_⟩
  match hs0, h1, h2, h4 with
  | [x], h1, h2, h4 =>
    obtain ⟨a, ks, k1, k2, rfl⟩ := h1.1
    have hx := h4 _ (List.mem_cons_self ..)
    refine ((h a).run w0 ks k1 k2 h3 fun y hy => ⟨(sub_joinL k2 y hy).trans hx.1, fun b => (hx.2 b).imp (fun z => joinL_none.1 z y hy) id⟩).mono ?_
    rintro e w' ⟨v, V', σ', he, ⟨g, b, rfl, hψ⟩, hm⟩
    refine ⟨v, V', _, he, ⟨g, rfl, hψ⟩, ?_⟩
    rw [dom_one]
    exact Mem.exI (a := b) (Mem.pack (τ := []) (by rw [List.append_nil]; exact hm))
theorem pk_nil_dom (ks : List HV) : dom (ks ++ [joinL []]) = dom ks := by
  funext b
  apply propext
  constructor
  · rintro ⟨h, hm, hne⟩
    rcases List.mem_append.1 hm with q | q
    · exact ⟨h, q, hne⟩
    · rw [List.mem_singleton.1 q] at hne; exact absurd rfl hne
  · rintro ⟨h, hm, hne⟩
    exact ⟨h, List.mem_append_left _ hm, hne⟩
/-- A state of nothing. -/
theorem FnC.pk_in {Φ : Value → HV → Res → Prop} (h : FnC P f args V [] Φ) : FnC P f args V [Pk []] (fun v V' σ' => σ' = [Pk []] ∧ ∃ σ1, Φ v V' σ1) := by
  refine ⟨h.ok, fun w0 hs0 h1 h2 h3 h4 => ?_⟩
  match hs0, h1, h2, h4 with
  | [x], h1, h2, h4 =>
    obtain ⟨ks, k1, k2, rfl⟩ := h1.1
    match ks, k1 with
    | [], _ =>
    refine (h.run w0 [] trivial .nil h3 fun y hy => by cases hy).mono ?_
    rintro e w' ⟨v, V', σ', he, hφ, hm⟩
    refine ⟨v, V', _, he, ⟨rfl, σ', hφ⟩, ?_⟩
    rw [dom_one]
    exact Mem.pack (σ := []) (τ := []) (hm.drop (σq := []) (.refl _))
theorem FnC.pk_out {σ : Res} {Φ : Value → HV → Res → Prop} (h : FnC P f args V (σ ++ [Pk []]) (fun v V' σ' => ∃ σ1, σ' = σ1 ++ [Pk []] ∧ Φ v V' σ1)) : FnC P f args V σ Φ := by
  refine ⟨h.ok, fun w0 hs0 h1 h2 h3 h4 => ?_⟩
  refine (h.run w0 (hs0 ++ [joinL []]) (h1.append ⟨⟨[], trivial, .nil, rfl⟩, trivial⟩) (List.pairwise_append.2 ⟨h2, by simp, fun a _ b hb c => .inr (by rw [List.mem_singleton.1 hb]; rfl)⟩) h3 fun y hy => ?_).mono ?_
  · rcases List.mem_append.1 hy with q | q
    · exact h4 y q
    · rw [List.mem_singleton.1 q]; exact ⟨fun b o z => (by cases z), fun b => Or.inl rfl⟩
  · rintro e w' ⟨v, V', σ', he, ⟨σ1, rfl, hφ⟩, hm⟩
    rw [pk_nil_dom] at hm
    have hm := (hm.perm (List.perm_append_comm (l₁ := σ1))).unpack
    exact ⟨v, V', σ1, he, hφ, hm⟩
end
end Go.Vc

namespace Go.Proofs.YtkmhjcjpohpiaaaGreat
open Go Go.RowKit Go.Shelf Go.Proofs
attribute [local go_sem] Oper.semAt_some
/-- What has come when k rounds are over. -/
def upto {α : Type} (f : Nat → α) (k : Nat) : List α := (List.range k).map f
theorem upto_succ {α : Type} (f : Nat → α) (k : Nat) : upto f (k + 1) = upto f k ++ [f k] := by simp [upto, List.range_succ]
theorem upto_length {α : Type} (f : Nat → α) (k : Nat) : (upto f k).length = k := by simp [upto]
theorem upto_all {α : Type} (d : α) (zs : List α) : upto (fun j => zs[j]?.getD d) zs.length = zs := by
  apply List.ext_getElem
  · simp [upto]
  · intro i h1 h2
    simp [upto, h2]
theorem upto_take {α : Type} (d : α) (zs : List α) {k : Nat} (hk : k ≤ zs.length) : upto (fun j => zs[j]?.getD d) k = zs.take k := by
  apply List.ext_getElem
  · simp [upto, hk]
  · intro i h1 h2
    have : i < zs.length := by simp [upto] at h1; omega
    simp [upto, this]
abbrev p2a (x : P2) : Value := .agg #[.int .i64 x.a, .int .i64 x.b]
set_option maxRecDepth 100000 in
set_option maxHeartbeats 2000000 in
theorem values1_in (F : Fence) (n : Nat) (h7 : F.fn 93) (hro : F.round = none) (hn : 1 ≤ n) (l Bs n₀ b off len cap : Nat) (zs : List P2) (hreach : len * 16 ≤ 140737488351232) (hb : b < n₀) (J Jx : List P2 → World → Prop) (W : World) (hnW : n₀ ≤ W.heap.size) (hab : AbidesFrom W.heap.size J)
    (hY : ∀ pre x W, J pre W → pre.length < len → YieldAt F (n - 1) Tryz.prog l #[p2a x] W fun e W' =>
      (e = .returned (.bool true) ∧ J (pre ++ [x]) W' ∧ Below n₀ W W') ∨ (e = .returned (.bool false) ∧ Jx (pre ++ [x]) W'))
    (hBs : W.cell? ⟨Bs, 0, none⟩ = some (.slice (some ⟨b, off, none⟩) len cap)) (hc : ∀ j, j < len → W.cell? ⟨b, off + j * 2, none⟩ = some (.int .i64 (zs[j]?.getD (⟨0, 0⟩ : P2)).a) ∧ W.cell? ⟨b, off + j * 2 + 1, none⟩ = some (.int .i64 (zs[j]?.getD (⟨0, 0⟩ : P2)).b)) (h0 : J [] W) :
    CallsIn F n Tryz.prog 93 #[.func (.yield l) #[] #[], .pointer (some ⟨Bs, 0, none⟩)] W fun e W' => (∃ v, e = .returned v) ∧
      ((∃ ys, ys = upto (fun j => zs[j]?.getD (⟨0, 0⟩ : P2)) len ∧ J ys W') ∨ (∃ pre, (∃ k, k ≤ len ∧ pre = upto (fun j => zs[j]?.getD (⟨0, 0⟩ : P2)) k) ∧ Jx pre W')) := by
  refine callsIn_of_wp Tryz.func93 rfl h7 ?_ hro
  simp only [Tryz.ntmps93, List.size_toArray, List.length_cons, List.length_nil, Nat.reduceAdd, Nat.reduceSub, Array.replicate_succ, Array.replicate_zero, List.push_toArray, List.append_toArray, List.nil_append, List.cons_append]
  gi_wp2
  gi_loopw [7] (fun i wr => ∃ k : Nat, k ≤ len ∧ i = .int .i64 k ∧ J (upto (fun j => zs[j]?.getD (⟨0, 0⟩ : P2)) k) wr ∧ Below n₀ W wr)
    (fun i _ => len - (intOf i).toNat)
  case atStart => exact ⟨0, Nat.zero_le _, rfl, h0, Below.refl _ _⟩
  case round =>
    obtain ⟨k, hk, rfl, hJs, hnx⟩ := hrel
    by_cases hlt : k < len
    · have hc1 := (hnx.cell (p := ⟨b, off + k * 2, none⟩) hb).trans (hc k hlt).1
      have hc2 := (hnx.cell (p := ⟨b, off + k * 2 + 1, none⟩) hb).trans (hc k hlt).2
      obtain ⟨o, ho⟩ : ∃ o : Obj, o = .cells #[.int .i64 (zs[k]?.getD (⟨0, 0⟩ : P2)).a, .int .i64 (zs[k]?.getD (⟨0, 0⟩ : P2)).b] 50 := ⟨_, rfl⟩
      have hJ2 : J (upto (fun j => zs[j]?.getD (⟨0, 0⟩ : P2)) k) (wr.alloc o) := hab _ wr _ none hJs (World.grownBy_alloc wr o none) (fun r e => by cases e)
      obtain ⟨fn, tmps, assign, body, hy, hR⟩ := hY _ (zs[k]?.getD (⟨0, 0⟩ : P2)) (wr.alloc o) hJ2 (by rw [upto_length]; exact hlt)
      rw [ho] at hy hR
      have hnx2 : Below n₀ W (wr.alloc o) := hnx.alloc (by have := hnx.size; omega) o
      rw [ho] at hnx2
      gi_wp2
      refine hR.mono ?_
      rintro e W3 (⟨rfl, hJ3, hk3⟩ | ⟨rfl, hJx3⟩)
      · gi_wp2
        go_roundw
        case rel => exact ⟨k + 1, by omega, by simp, by rw [upto_succ]; exact hJ3, hnx2.trans hk3⟩
        case measure => simp [intOf]; omega
      · gi_wp2
        refine bodyPost_ret (results_none rfl _ _ _) rfl ?_
        exact ⟨⟨_, rfl⟩, .inr ⟨_, ⟨k + 1, by omega, (upto_succ _ _).symm⟩, hJx3⟩⟩
    · obtain rfl : k = len := by omega
      gi_wp2
      go_end0
      exact ⟨⟨_, rfl⟩, .inl ⟨_, rfl, hJs⟩⟩
/-- The slice value sv holds the pairs zs, in a block below n₀; or there are none. -/
def IntsW (n₀ : Nat) (W : World) (sv : Value) (zs : List P2) : Prop :=
  (∃ a cap, sv = .slice a 0 cap ∧ zs = []) ∨ ∃ b off cap, sv = .slice (some ⟨b, off, none⟩) zs.length cap ∧ b < n₀ ∧ ∀ j, j < zs.length → W.cell? ⟨b, off + j * 2, none⟩ = some (.int .i64 (zs[j]?.getD (⟨0, 0⟩ : P2)).a) ∧ W.cell? ⟨b, off + j * 2 + 1, none⟩ = some (.int .i64 (zs[j]?.getD (⟨0, 0⟩ : P2)).b)
theorem IntsW.below {n₀ : Nat} {A B : World} (h : Below n₀ A B) {sv : Value} {zs : List P2} : IntsW n₀ A sv zs → IntsW n₀ B sv zs
  | .inl e => .inl e
  | .inr ⟨b, off, cap, e, hb, hc⟩ => .inr ⟨b, off, cap, e, hb, fun j hj => ⟨(h.cell (p := ⟨b, off + j * 2, none⟩) hb).trans (hc j hj).1, (h.cell (p := ⟨b, off + j * 2 + 1, none⟩) hb).trans (hc j hj).2⟩⟩
set_option maxRecDepth 100000 in
set_option maxHeartbeats 1000000 in
theorem values1_nil_in (F : Fence) (n : Nat) (h7 : F.fn 93) (hro : F.round = none) (l Bs cap : Nat) (p : Option Addr) (J : List P2 → World → Prop) (W : World) (hBs : W.cell? ⟨Bs, 0, none⟩ = some (.slice p 0 cap)) (h0 : J [] W) :
    CallsIn F n Tryz.prog 93 #[.func (.yield l) #[] #[], .pointer (some ⟨Bs, 0, none⟩)] W fun e W' => (∃ v, e = .returned v) ∧ J [] W' := by
  refine callsIn_of_wp Tryz.func93 rfl h7 ?_ hro
  simp only [Tryz.ntmps93, List.size_toArray, List.length_cons, List.length_nil, Nat.reduceAdd, Nat.reduceSub, Array.replicate_succ, Array.replicate_zero, List.push_toArray, List.append_toArray, List.nil_append, List.cons_append]
  gi_wp2
  gi_loopw [7] (fun i wr => i = .int .i64 0 ∧ J [] wr) (fun _ _ => 0)
  case atStart => exact ⟨rfl, h0⟩
  case round =>
    obtain ⟨rfl, hJs⟩ := hrel
    gi_wp2
    go_end0
    exact ⟨⟨_, rfl⟩, hJs⟩
theorem values_stops (F : Fence) (n : Nat) (h7 : F.fn 93) (hro : F.round = none) (hn : 1 ≤ n) (Bs n₀ : Nat) (sv : Value) (zs : List P2) (hreach : zs.length * 16 ≤ 140737488351232) (w : World) (hBs : Bs < w.heap.size) (hn₀ : n₀ ≤ w.heap.size)
    (hc : w.cell? ⟨Bs, 0, none⟩ = some sv) (hI : IntsW n₀ w sv zs) :
    SeqStopsK F n Tryz.prog 93 #[.pointer (some ⟨Bs, 0, none⟩)] (fun x : P2 => #[p2a x]) (Below n₀) (fun ys => ys = zs) (fun pre => pre <+: zs) zs.length w := fun l J Jx W hW ha _ hY h0 => by
  have hc' := (hW.cell (p := ⟨Bs, 0, none⟩) hBs).trans hc
  rcases hI.below (hW.mono hn₀) with ⟨a, cap, rfl, rfl⟩ | ⟨b, off, cap, rfl, hb, hcs⟩
  · exact (values1_nil_in F n h7 hro l Bs cap a J W hc' h0).mono fun e W' ⟨he, hj⟩ => ⟨he, .inl ⟨_, rfl, hj⟩⟩
  · refine (values1_in F n h7 hro hn l Bs n₀ b off zs.length cap zs hreach hb J Jx W (Nat.le_trans hn₀ hW.size) ha hY hc' hcs h0).mono ?_
    rintro e W' ⟨he, ⟨ys, rfl, hj⟩ | ⟨pre, ⟨k, hk, rfl⟩, hj⟩⟩
    · exact ⟨he, .inl ⟨_, upto_all (⟨0, 0⟩ : P2) zs, hj⟩⟩
    · exact ⟨he, .inr ⟨_, by rw [upto_take (⟨0, 0⟩ : P2) zs hk]; exact List.take_prefix _ _, hj⟩⟩
theorem infoI : (Tryz.prog.info? 50).map (fun i => (i.zero, i.size, i.bytes)) = some (some (.agg #[.int .i64 0, .int .i64 0]), 2, 16) := by kernel_rfl
/-- A pair in a block of its own. -/
def Boxed2 (W : World) (B : Nat) (x : P2) : Prop := W.heap[B]? = some (.cells #[.int .i64 x.a, .int .i64 x.b] 50 (0, 0))
theorem Boxed2.cells {W : World} {B : Nat} {x : P2} (h : Boxed2 W B x) : W.cell? ⟨B, 0, none⟩ = some (.int .i64 x.a) ∧ W.cell? ⟨B, 1, none⟩ = some (.int .i64 x.b) := by
  unfold Boxed2 at h
  simp [World.cell?, h]
theorem Boxed2.kept {W W' : World} {B : Nat} {x : P2} {row : Option Nat} {n₀ : Nat} (h : Boxed2 W B x) (hg : W.grownBy W' row) (hr : ∀ r, row = some r → n₀ ≤ r ∧ ∃ o : Obj, W.heap[r]? = some o ∧ o.isCells = false) : Boxed2 W' B x := by
  have hlt : B < W.heap.size := (Array.getElem?_eq_some_iff.1 h).1
  refine (hg.block B hlt fun e => ?_).trans h
  obtain ⟨_, o, ho, hc⟩ := hr B e.symm
  have h : W.heap[B]? = _ := h
  rw [h] at ho
  cases ho
  cases hc
theorem cell_two_new (w : World) (x y : Value) (t : TypeId) : ∀ j u, [x, y][j]? = some u → (w.alloc (.cells #[x, y] t)).cell? ((⟨w.heap.size, 0, none⟩ : Addr).add j) = some u := by
  intro j u hj
  have h := World.alloc_heap_new w (.cells #[x, y] t)
  match j, hj with
  | 0, hj =>
    have hj : x = u := by simpa using hj
    subst hj
    show (w.alloc (.cells #[x, y] t)).cell? ⟨w.heap.size, 0, none⟩ = some x
    unfold World.cell?
    simp only [h]
    rfl
  | 1, hj =>
    have hj : y = u := by simpa using hj
    subst hj
    show (w.alloc (.cells #[x, y] t)).cell? ⟨w.heap.size, 1, none⟩ = some y
    unfold World.cell?
    simp only [h]
    rfl
set_option maxRecDepth 100000 in
set_option maxHeartbeats 2000000 in
theorem app_in (F : Fence) (n : Nat) (h4 : F.fn 117) (h5 : F.fn 93) (hro : F.round = none) (hn : 3 ≤ n) (Bs : Nat) (sv : Value) (xs : List P2) (hlen : xs.length ≤ maxLen) (hbytes : xs.length * 16 ≤ 140737488351232) (w : World) (hBs : Bs < w.heap.size) (hc : w.cell? ⟨Bs, 0, none⟩ = some sv) (hL : IntsW w.heap.size w sv xs) :
    CallsIn F n Tryz.prog 117 #[.slice none 0 0, .func (.func 93) #[] #[.pointer (some ⟨Bs, 0, none⟩)]] w fun e W' => ∃ v, e = .returned v ∧ W'.ownsRow w.heap.size 50 2 v xs.length (p2s xs) ∧ Below w.heap.size w W' := by
  have h1 : 1 ≤ n := by omega
  obtain ⟨i0, hi, hz0, hz1, hz2⟩ := info_parts infoI
  refine callsIn_of_wp_marks Tryz.func117 rfl h4 ?_ hro
  simp only [Tryz.ntmps117, List.size_toArray, List.length_cons, List.length_nil, Nat.reduceAdd, Nat.reduceSub, Array.replicate_succ, Array.replicate_zero, List.push_toArray, List.append_toArray, List.nil_append, List.cons_append]
  gi_wp2
  have bO := Boxed.new w 44 (.slice none 0 0)
  have hB0 : Below w.heap.size w (w.alloc (.cells #[.slice none 0 0] 44)) := (Below.refl _ w).alloc (Nat.le_refl _) _
  refine wpIn_rangeFunc_ownH hro h1 (gf := 93) (lb := #[.pointer (some ⟨Bs, 0, none⟩)]) rfl h5 (enters_of Tryz.func93 (by kernel_rfl) rfl)
    (values_stops F (n - 1) h5 hro (by omega) Bs w.heap.size sv xs hbytes _ (by simp; omega) (by simp) ((hB0.cell (p := ⟨Bs, 0, none⟩) hBs).trans hc) (hL.below hB0)) belowK_t (belowK_b (by simp)) (Below.refl _ _) (fun _ => rfl)
    (fun pre W => (∃ v, Boxed W w.heap.size 44 v ∧ W.ownsRow w.heap.size 50 2 v pre.length (p2s pre) ∧ True) ∧ Below w.heap.size w W)
    (fun _ _ _ => False)
    (OwnFrom.and (Own.from (holdsRow_own w.heap.size w.heap.size 44 50 2 (fun pre : List P2 => pre.length) (fun pre : List P2 => p2s pre) (fun _ _ => True)) _) (ownFrom_below (Nat.le_refl _) (by simp)))
    (fun _ _ _ _ _ hs _ _ => hs)
    ⟨⟨_, bO, World.ownsRow_nil _ _ _ _, trivial⟩, hB0⟩
    (fun x a' W => ∃ Bx, w.heap.size < Bx ∧ Boxed2 W Bx x ∧ a' = { tmps := #[.slice none 0 0, .func (.func 93) #[] #[.pointer (some ⟨Bs, 0, none⟩)], .pointer (some ⟨w.heap.size, 0, none⟩), undef, .slice none 0 0, .pointer (some ⟨Bx, 0, none⟩), .func (.func 93) #[] #[.pointer (some ⟨Bs, 0, none⟩)], p2a x, undef, undef, undef, undef, undef], defers := [] })
    (fun x a' s A B row hs hg hr => by
      obtain ⟨Bx, q1, q2, q3⟩ := hs
      exact ⟨Bx, q1, q2.kept hg hr, q3⟩) ?assign ?body ?done ?stop
  case assign =>
    intro l pre x W K hI hK
    gi_wp2
    obtain ⟨⟨v, hv, hrow, -⟩, hB⟩ := hI
    exact hK _ _ (KeepsFrom.of_grownBy (World.grownBy_alloc W _ none) (fun j e => by cases e)) ((Below.refl _ W).alloc hB.size _) ⟨⟨v, hv.alloc _, hrow.alloc _, trivial⟩, hB.alloc hB.size _⟩ ⟨_, hv.lt, World.alloc_heap_new W _, rfl⟩
  case body =>
    rintro l pre x a' W _ _ ⟨⟨v, hv, hrow, -⟩, hB⟩ ⟨Bx, q1, q2, rfl⟩ hlt
    have hc := hv.cell
    have hx1 := q2.cells.1
    have hx2 := q2.cells.2
    gi_wp2_with (gi_at_builtin; refine wpListIn_append_own _ rfl _ _ 44 rfl w.heap.size 50 i0 _ 2 16 Tryz.underlying44 hi hz0 hz1 hz2 rfl (by decide) _ _ _ rfl (hrow.alloc _) ⟨W.heap.size, 0, none⟩ 1 1 [.int .i64 x.a, .int .i64 x.b] rfl rfl (cell_two_new _ _ _ _) (by simp [Value.oneCell']) (by omega) (by omega) (by have := hB.size; simp; omega) ?_; intro v' w1 hown' hgrow _; obtain ⟨g', cap', rfl⟩ := ownsRow_succ hown'; obtain ⟨hv1, hv2, hr2, hk2, hb2⟩ := hv.appended (by decide) hrow hB.size (Nat.le_refl _) hown' hgrow; have hc1 := hv1.cell; have hf1 := hv1.frozen)
    exact ⟨hk2.from _, hb2, ⟨_, hv2, by rw [List.length_append, p2s_snoc]; exact hr2, trivial⟩, hB.trans hb2⟩
  case done =>
    rintro D ys W hD rfl ⟨⟨v, hv, hrow, -⟩, hB⟩ hK
    have hc := hv.cell
    gi_wp2
    refine ⟨by simp, .inl ⟨_, _, rfl, run_takeDeferred hK, ?_⟩⟩
    exact ⟨_, results_tmp rfl _ _ _, v, rfl, ownsRow_putObj hrow _ hK rfl, hB.trans (belowK_b (w := w) (Nat.le_refl _) W D _ _ (by simp at hD; omega) hK rfl rfl)⟩
  case stop =>
    rintro D c pre W _ _ h _
    exact h.elim
end Go.Proofs.YtkmhjcjpohpiaaaGreat

namespace Go.Proofs.YtkmhjcjpohpiaaaGreat
open Go Go.RowKit Go.Shelf Go.Proofs Go.Lib Go.Sort Go.Vc
/-- Pairs of numbers that are no leaves out of range. -/
abbrev Pr := {p : P2 // inR p.a ∧ inR p.b}
instance instPr : Inhabited Pr := ⟨⟨⟨0, 0⟩, ⟨by decide, by decide⟩, by decide, by decide⟩⟩
def cmpP (x y : P2) : Int := if x.a ≠ y.a then x.a - y.a else x.b - y.b
set_option maxRecDepth 100000 in
set_option maxHeartbeats 600000 in
theorem cmpP_calls (x y : Pr) (W : World) : Calls Tryz.prog 51 #[p2a x.1, p2a y.1] W fun e w' => e = .returned (.int .i64 (cmpP x.1 y.1)) ∧ ∃ q os', w' = grow (W.drewN q) os' := by
  obtain ⟨⟨x1, x2⟩, hx⟩ := x
  obtain ⟨⟨y1, y2⟩, hy⟩ := y
  obtain ⟨⟨a1, a2⟩, a3, a4⟩ := hx
  obtain ⟨⟨b1, b2⟩, b3, b4⟩ := hy
  have w1 : wrap64 (x1 - y1) = x1 - y1 := (by unfold wrap64; dsimp only at *; omega)
  have w2 : wrap64 (x2 - y2) = x2 - y2 := (by unfold wrap64; dsimp only at *; omega)
  dsimp only at *
  go_enter Tryz.func51, Tryz.ntmps51
  go_wp2
  · rename_i h
    go_ret
    have h : x1 ≠ y1 := by simpa using h
    exact ⟨by unfold cmpP; rw [if_pos h]; rfl, 0, _, by rw [alloc_eq_grow, alloc_eq_grow, grow_grow]; rfl⟩
  · rename_i h
    go_ret
    have h : x1 = y1 := by simpa using h
    exact ⟨by unfold cmpP; rw [if_neg (fun q => q h)]; rfl, 0, _, by rw [alloc_eq_grow, alloc_eq_grow, grow_grow]; rfl⟩
/-- The order of pairs. -/
def PLt (x y : P2) : Prop := x.a < y.a ∨ (x.a = y.a ∧ x.b < y.b)
theorem cmpP_lt {x y : P2} : cmpP x y < 0 ↔ PLt x y := by
  unfold cmpP PLt
  by_cases h : x.a = y.a
  · rw [if_neg (fun q => q h)]; omega
  · rw [if_pos h]; omega
abbrev cfP (x y : Pr) : Int := cmpP x.1 y.1
theorem cfP_lt {x y : Pr} : ltOf cfP x y = true ↔ PLt x.1 y.1 := by
  unfold ltOf; rw [decide_eq_true_eq]; exact cmpP_lt
theorem cfP_not {x y : Pr} : ltOf cfP x y = false ↔ ¬ PLt x.1 y.1 := by
  rw [← cfP_lt]; cases ltOf cfP x y <;> simp
theorem swoP : SWO (ltOf cfP) where
  irrefl x := by rw [cfP_not]; unfold PLt; omega
  trans x y z h1 h2 := by rw [cfP_lt] at *; unfold PLt at *; omega
  ntrans x y z h1 h2 := by rw [cfP_not] at *; unfold PLt at *; omega
abbrev vals2 (T : List Pr) : List P2 := T.map (·.1)
theorem flat_p2 (T : List Pr) : T.flatMap (fun x => p2c x.1) = p2s (vals2 T) := by unfold p2s vals2; rw [List.flatMap_map]
theorem SortP_c {V : HV} {v : Value} {T : List Pr} (h : T.length < 4611686018427387904) :
    FnC Tryz.prog 53 [v, .func (.func 51) #[] #[]] V [Gr 50 2 v T.length (p2s (vals2 T))] (fun u V' σ' => u = .tuple #[] ∧ V' = V ∧ ∃ T' : List Pr, T'.Perm T ∧ (∀ i j : Nat, i < j → j < T'.length → ¬ PLt (T'[j]!).1 (T'[i]!).1) ∧ σ' = [Gr 50 2 v T.length (p2s (vals2 T'))]) := by
  rw [← flat_p2]
  refine (FnC.sortK (P := Tryz.prog) (ρ := Tryz.laysSlPair_ren) Tryz.laysSlPair (enc := fun x : Pr => p2c x.1) (k := 2) (E := 50) (fun w => by
      show (isAgg 50).run Tryz.prog w = _
      simp [isAgg, run_underlying Tryz.underlying50]) (fun w => Go.Vc.run_sizeOf Tryz.size50 w) (fun _ => rfl) (fun x v hv => by
      simp [p2c] at hv; rcases hv with rfl | rfl <;> rfl) cfP swoP 51 (enters_of Tryz.func51 (by kernel_rfl) rfl) (fun blk off size w m os dk _ x y => cmpP_calls x y _)
      ⟨_, Tryz.func53, by rfl, by rfl⟩ h).mono fun u V' σ' _ hh => ?_
  obtain ⟨a, b, T', c, d, e⟩ := hh
  exact ⟨a, b, T', c, fun i j hij hj => cfP_not.1 (d i j hij hj), by rw [e, flat_p2]⟩
/-- What one has laid anew is one's own. -/
theorem mem_fresh {V : HV} {w0 w' : World} {E : TypeId} {s n : Nat} {v : Value} {xs : List Value} (h3 : Vc.Sub V (hv w0)) (hr : w'.ownsRow w0.heap.size E s v n xs) (hb : Ext w0 w') : Mem ⟨w0, V, dom []⟩ V [Gr E s v n xs] w' := by
  have m0 : Mem ⟨w0, V, dom []⟩ V [] w0 := Vc.mem_start trivial List.Pairwise.nil h3 (fun h hh => by cases hh)
  have m := m0.ext hb
  obtain ⟨hl, hr⟩ := hr
  rcases hr with ⟨rfl, hn⟩ | ⟨g, cap, cur, rfl, hbase, hg, r1, r2, r3, r4⟩
  · refine ⟨m.os, m.tape, m.output, m.size, m.frame, m.sub, m.view, m.vold, [fun _ => none], ⟨⟨hl, .inl ⟨rfl, hn, rfl⟩⟩, trivial⟩, List.pairwise_singleton _ _, fun h hh => ?_⟩
    rw [List.mem_singleton.1 hh]
    refine ⟨?_, fun b => Or.inl rfl, fun b _ hne => absurd rfl hne⟩
    intro b o e
    exact absurd e (by simp)
  · refine ⟨m.os, m.tape, m.output, m.size, m.frame, m.sub, m.view, m.vold, [Vc.one g (.cells cur E (0, 0))], ⟨⟨hl, .inr ⟨g, cap, cur, rfl, rfl, r1, r2, r3, r4⟩⟩, trivial⟩, List.pairwise_singleton _ _, fun h hh => ?_⟩
    rw [List.mem_singleton.1 hh]
    refine ⟨fun b o e => ?_, fun b => ?_, fun b hlt hne => ?_⟩
    · unfold Vc.one at e
      split at e
      · rename_i q; subst q; cases e; exact hg
      · cases e
    · by_cases q : b = g
      · subst q
        right
        cases e : V b with
        | none => rfl
        | some o => have := hv_lt (h3 b o e); omega
      · left; unfold Vc.one; rw [if_neg q]
    · unfold Vc.one at hne
      split at hne
      · rename_i q; subst q; have : b < w0.heap.size := hlt; omega
      · exact absurd rfl hne
theorem App_c {V : HV} {sv : Value} {xs : List P2} {Bs : Nat} (hc : Cells V Bs [sv]) (hx : P2s V sv xs) (hlen : xs.length ≤ 1000000) :
    FnC Tryz.prog 117 [.slice none 0 0, .func (.func 93) #[] #[.pointer (some ⟨Bs, 0, none⟩)]] V [] (fun v V' σ' => V' = V ∧ σ' = [Gr 50 2 v xs.length (p2s xs)]) := by
  refine ⟨⟨_, Tryz.func117, by rfl, by rfl⟩, fun w0 hs0 h1 h2 h3 h4 => ?_⟩
  obtain rfl : hs0 = [] := by cases hs0 with | nil => rfl | cons a l => exact h1.elim
  obtain ⟨Tc, fz, hc⟩ := hc
  have hcb := h3 _ _ hc
  have hI : IntsW w0.heap.size w0 sv xs := by
    obtain ⟨a, cap, rfl, q1, q2, q0, q3⟩ := hx
    by_cases hz : xs.length = 0
    · have hz := List.eq_nil_of_length_eq_zero hz
      subst hz; exact .inl ⟨a, cap, rfl, rfl⟩
    · obtain ⟨b, off, cs, T, fz2, rfl, e2, e3⟩ := q3 hz
      have hb : w0.heap[b]? = some (.cells cs T fz2) := h3 _ _ e2
      refine .inr ⟨b, off, cap, rfl, hv_lt (w := w0) hb, fun j hj => ?_⟩
      have g := p2s_get xs j hj
      have c0 := congrArg (fun l => l[0]?) g
      have c1 := congrArg (fun l => l[1]?) g
      simp only [List.getElem?_take, List.getElem?_drop] at c0 c1
      rw [if_pos (by omega)] at c0 c1
      have d0 := e3 (j * 2 + 0) (by omega)
      have d1 := e3 (j * 2 + 1) (by omega)
      rw [c0] at d0
      rw [c1] at d1
      have e : xs[j]?.getD ⟨0, 0⟩ = xs.getD j ⟨0, 0⟩ := (List.getD_eq_getElem?_getD ..).symm
      rw [e]
      constructor
      · simp only [World.cell?, hb]
        exact d0
      · simp only [World.cell?, hb]
        exact d1
  refine ((callsIn_wide (n := 3)).1 (app_in Fence.wide 3 trivial trivial rfl (by omega) Bs sv xs (by simp only [maxLen]; omega) (by omega) w0 (hv_lt (w := w0) hcb) (by
    have hcb : w0.heap[Bs]? = some (.cells [sv].toArray Tc fz) := hcb
    simp [World.cell?, hcb]) hI)).mono fun e w' ⟨v, he, hr, hb⟩ => ?_
  exact ⟨v, V, _, he, ⟨rfl, rfl⟩, mem_fresh h3 hr hb⟩
end Go.Proofs.YtkmhjcjpohpiaaaGreat

namespace Go.Proofs.YtkmhjcjpohpiaaaGreat
open Go Go.Vc
open Classical
/-- The first place of a pair. -/
noncomputable def px (n : P2) : List P2 → Option Nat
  | [] => none
  | a :: r => if a = n then some 0 else (px n r).map (· + 1)
theorem px_some {n : P2} : ∀ {O : List P2} {i : Nat}, px n O = some i → i < O.length ∧ O.getD i ⟨0, 0⟩ = n
  | [], _, h => by cases h
  | a :: r, i, h => by
    unfold px at h
    by_cases e : a = n
    · rw [if_pos e] at h; simp at h; subst h; exact ⟨by simp, by simpa using e⟩
    · rw [if_neg e] at h
      cases hr : px n r with
      | none => rw [hr] at h; cases h
      | some j =>
        rw [hr] at h; simp at h; subst h
        obtain ⟨h1, h2⟩ := px_some hr
        exact ⟨by simpa using h1, by simpa using h2⟩
theorem px_mem {n : P2} : ∀ {O : List P2}, n ∈ O → ∃ i, px n O = some i
  | [], h => by cases h
  | a :: r, h => by
    unfold px
    by_cases e : a = n
    · rw [if_pos e]; exact ⟨0, rfl⟩
    · rw [if_neg e]
      obtain ⟨i, hi⟩ := px_mem (List.mem_of_ne_of_mem (fun q => e q.symm) h)
      exact ⟨i + 1, by rw [hi]; rfl⟩
theorem px_snoc {n q : P2} : ∀ (M : List P2), px q (M ++ [n]) = match px q M with | some i => some i | none => if n = q then some M.length else none
  | [] => by
    show (if n = q then some 0 else (px q []).map (· + 1)) = _
    by_cases h : n = q
    · rw [if_pos h]; show some 0 = if n = q then some 0 else none; rw [if_pos h]
    · rw [if_neg h]; show none = if n = q then some 0 else none; rw [if_neg h]
  | a :: M => by
    show (if a = q then some 0 else (px q (M ++ [n])).map (· + 1)) = match (if a = q then some 0 else (px q M).map (· + 1)) with | some i => some i | none => if n = q then some (a :: M).length else none
    by_cases h : a = q
    · rw [if_pos h, if_pos h]
    · rw [if_neg h, if_neg h, px_snoc M]
      cases px q M with
      | some i => rfl
      | none =>
        show (if n = q then some M.length else none).map (· + 1) = if n = q then some (M.length + 1) else none
        by_cases h2 : n = q
        · rw [if_pos h2, if_pos h2]; rfl
        · rw [if_neg h2, if_neg h2]; rfl
theorem px_first {n : P2} : ∀ {O : List P2} {i : Nat}, px n O = some i → ∀ j : Nat, j < i → O.getD j ⟨0, 0⟩ ≠ n
  | [], _, h => by cases h
  | a :: r, i, h => by
    unfold px at h
    by_cases e : a = n
    · rw [if_pos e] at h; simp at h; subst h; exact fun j hj => by omega
    · rw [if_neg e] at h
      cases hr : px n r with
      | none => rw [hr] at h; cases h
      | some j =>
        rw [hr] at h; simp at h; subst h
        intro k hk
        cases k with
        | zero => simpa using e
        | succ k => simpa using px_first hr k (by omega)
noncomputable def pF (P : List P2) : Int × Int → Option Int := fun k => (px ⟨k.1, k.2⟩ P).map fun i : Nat => (i : Int)
theorem pF_step {M : List P2} {k : Int × Int} (h : pF M k = none) : setF (pF M) k (M.length : Int) = pF (M ++ [⟨k.1, k.2⟩]) := by
  funext q
  have hn : px ⟨k.1, k.2⟩ M = none := by unfold pF at h; simpa using h
  unfold pF
  rw [px_snoc]
  by_cases e : q = k
  · subst e; rw [setF_same, hn]; show _ = Option.map _ (if (⟨q.1, q.2⟩ : P2) = ⟨q.1, q.2⟩ then some M.length else none); rw [if_pos rfl]; rfl
  · rw [setF_other e]
    cases px ⟨q.1, q.2⟩ M with
    | some i => rfl
    | none =>
      show none = Option.map _ (if (⟨k.1, k.2⟩ : P2) = ⟨q.1, q.2⟩ then some M.length else none)
      rw [if_neg fun z => e (Prod.ext (congrArg P2.a z).symm (congrArg P2.b z).symm)]; rfl
theorem pF_some {P : List P2} {x y i : Int} (h : pF P (x, y) = some i) : (0 ≤ i ∧ i < P.length) ∧ p2 P i = ⟨x, y⟩ := by
  unfold pF at h
  cases hx : px ⟨x, y⟩ P with
  | none => rw [show px ⟨(x, y).1, (x, y).2⟩ P = none from hx] at h; cases h
  | some j =>
    rw [show px ⟨(x, y).1, (x, y).2⟩ P = some j from hx] at h
    obtain ⟨a, b⟩ := px_some hx
    have e : (j : Int) = i := Option.some.inj h
    subst e
    exact ⟨⟨by omega, by omega⟩, b⟩
theorem pF_mem {P : List P2} {x y : Int} (h : (⟨x, y⟩ : P2) ∈ P) : ∃ i, pF P (x, y) = some i := by
  obtain ⟨i, hi⟩ := px_mem h
  exact ⟨i, by unfold pF; rw [show px ⟨(x, y).1, (x, y).2⟩ P = some i from hi]; rfl⟩
theorem p2_mem {P : List P2} {i : Int} (h0 : 0 ≤ i) (h1 : i < P.length) : p2 P i ∈ P := by
  unfold p2
  rw [List.getD_eq_getElem?_getD, List.getElem?_eq_getElem (by omega)]
  exact List.getElem_mem _
theorem mem_p2 {P : List P2} {q : P2} (h : q ∈ P) : ∃ i : Int, 0 ≤ i ∧ i < P.length ∧ p2 P i = q := by
  obtain ⟨n, hn, e⟩ := List.getElem_of_mem h
  exact ⟨n, by omega, by omega, by unfold p2; rw [Int.toNat_natCast, List.getD_eq_getElem?_getD, List.getElem?_eq_getElem hn]; exact e⟩
theorem pF_bd (P : List P2) (k : Int × Int) : 0 ≤ (pF P k).getD 0 ∧ (pF P k).getD 0 ≤ P.length := by
  cases h : pF P k with
  | none => simp
  | some i =>
    have := pF_some (P := P) (x := k.1) (y := k.2) h
    show 0 ≤ i ∧ i ≤ _
    omega
/-- The place of a pair, -1 where there is none. -/
noncomputable def ixP (S : List P2) (x y : Int) : Int := (pF S (x, y)).getD (-1)
noncomputable abbrev ixF (S : List P2) : Int → Int → Int → Int := fun x y _ => ixP S x y
theorem ixP_at {S : List P2} {x y i : Int} (h0 : 0 ≤ i) (h1 : i < S.length) (h : x = (p2 S i).a ∧ y = (p2 S i).b) (hn : ∀ z : Int, 0 ≤ z → z < i → ¬ p2 S z = ⟨x, y⟩) : ixP S x y = i := by
  have he : p2 S i = ⟨x, y⟩ := by cases hq : p2 S i; rw [hq] at h; rw [h.1, h.2]
  obtain ⟨j, hj⟩ := px_mem (n := ⟨x, y⟩) (O := S) (by rw [← he]; exact p2_mem h0 h1)
  have e : ixP S x y = (j : Int) := by unfold ixP pF; rw [show px ⟨(x, y).1, (x, y).2⟩ S = some j from hj]; rfl
  rw [e]
  by_cases q : (j : Int) < i
  · exact absurd (px_some hj).2 (by have := hn j (by omega) q; unfold p2 at this; rwa [Int.toNat_natCast] at this)
  · by_cases q2 : i < (j : Int)
    · exact absurd he (px_first hj i.toNat (by omega))
    · omega
theorem ixP_none {S : List P2} {x y : Int} (h : ∀ z : Int, 0 ≤ z → z < S.length → ¬ p2 S z = ⟨x, y⟩) : ixP S x y = -1 := by
  unfold ixP
  cases e : pF S (x, y) with
  | none => rfl
  | some i =>
    have := pF_some e
    exact absurd this.2 (h i this.1.1 this.1.2)
theorem ren_done {L L1 : List Int} {i z : Int} {f : Int → Int} (h0 : 0 ≤ i) (h1 : i < L.length) (hz : z = f (gi L1 i)) (h : ∀ x : Int, 0 ≤ x → x < i → gi L x = f (gi L1 x)) : ∀ x : Int, 0 ≤ x → x < i + 1 → gi (L.set i.toNat z) x = f (gi L1 x) := fun x a b => by
  rw [gi_set h0 h1 a]
  by_cases e : x = i
  · rw [if_pos e, hz, e]
  · rw [if_neg e]; exact h x a (by omega)
theorem ren_rest {L L1 : List Int} {i z n : Int} (h0 : 0 ≤ i) (h1 : i < L.length) (h : ∀ x : Int, i ≤ x → x < n → gi L x = gi L1 x) : ∀ x : Int, i + 1 ≤ x → x < n → gi (L.set i.toNat z) x = gi L1 x := fun x a b => by
  rw [gi_set h0 h1 (by omega), if_neg (by omega)]
  exact h x (by omega) b
/-- The pairs gathered so far. -/
abbrev PSt := {T : List Pr // (vals2 T).Nodup}
def AgP (T : PSt) (F : Int → Int → Int → Int) : Prop := ∀ x y z i, pF (vals2 T.1) (x, y) = some i → F x y z = i
theorem agP_ix (T : PSt) : AgP T (ixF (vals2 T.1)) := fun x y z i h => by show (pF _ _).getD (-1) = i; rw [h]; rfl
abbrev upN (n : Nat) : List Int := (List.range n).map fun i : Nat => (i : Int)
def IvP (T : PSt) (L : List Int) : Prop := L = upN T.1.length
theorem upN_len (n : Nat) : (upN n).length = n := by simp [upN]
theorem upN_at {n : Nat} {i : Int} (h0 : 0 ≤ i) (h1 : i < n) : gi (upN n) i = i := by
  unfold gi upN
  rw [List.getD_eq_getElem?_getD, List.getElem?_map, List.getElem?_range (by omega)]
  show ((i.toNat : Nat) : Int) = i; omega
theorem upN_mem {n : Nat} {z : Int} : z ∈ upN n ↔ 0 ≤ z ∧ z < n := by
  unfold upN
  rw [List.mem_map]
  constructor
  · rintro ⟨i, hi, rfl⟩; have := List.mem_range.1 hi; omega
  · intro h; exact ⟨z.toNat, List.mem_range.2 (by omega), by omega⟩
theorem ivP_hit {T : PSt} {L : List Int} {i : Int} (h : IvP T L) (h0 : 0 ≤ i) (h1 : i < T.1.length) : IvP T (lfR L i).1 := by
  have hs : (lfF L i).isSome = true := by
    cases e : gx i L with
    | some j => unfold lfF; rw [e]; rfl
    | none =>
      have hm : i ∈ L := by rw [h]; exact upN_mem.2 ⟨h0, h1⟩
      obtain ⟨j, hj, ej⟩ := pos_of_getD hm
      exact absurd ej (by have := gx_none e j hj; unfold gi; rw [Int.toNat_natCast]; exact this)
  rw [lf_hit hs]; exact h
theorem ivP_new {T T' : PSt} {L : List Int} (h : IvP T L) (hl : T'.1.length = T.1.length + 1) : IvP T' (lfR L T.1.length).1 := by
  have hs : ¬ (lfF L T.1.length).isSome = true := fun q => by
    obtain ⟨j, hj⟩ := Option.isSome_iff_exists.1 q
    unfold lfF at hj
    cases e : gx (T.1.length : Int) L with
    | none => rw [e] at hj; cases hj
    | some m =>
      obtain ⟨a, b, _⟩ := gx_some e
      have hm : gi L m ∈ L := gi_mem (by omega) (by omega)
      rw [h] at hm
      have := upN_mem.1 hm
      have b2 : gi L m = T.1.length := by unfold gi; rw [Int.toNat_natCast]; exact b
      rw [h] at b2
      omega
  rw [(lf_new hs).2]
  show L ++ [(T.1.length : Int)] = upN T'.1.length
  rw [hl, h]
  unfold upN
  rw [List.range_succ, List.map_append]; rfl
/-- One more pair. -/
def addP (T : PSt) (x y : Int) (hx : inR x) (hy : inR y) (hn : pF (vals2 T.1) (x, y) = none) : PSt := ⟨T.1 ++ [⟨⟨x, y⟩, hx, hy⟩], by
  unfold vals2
  rw [List.map_append, List.nodup_append]
  refine ⟨T.2, by simp, fun a ha b hb e => ?_⟩
  have hb : b = ⟨x, y⟩ := by simpa using hb
  rw [e, hb] at ha
  obtain ⟨i, hi⟩ := pF_mem ha
  rw [hi] at hn; cases hn⟩
theorem addP_vals {T : PSt} {x y : Int} {hx : inR x} {hy : inR y} {hn : pF (vals2 T.1) (x, y) = none} : vals2 (addP T x y hx hy hn).1 = vals2 T.1 ++ [⟨x, y⟩] := by
  show (T.1 ++ [_]).map _ = _
  rw [List.map_append]; rfl
theorem addP_pF {T : PSt} {x y : Int} {hx : inR x} {hy : inR y} {hn : pF (vals2 T.1) (x, y) = none} : pF (vals2 (addP T x y hx hy hn).1) = setF (pF (vals2 T.1)) (x, y) (T.1.length : Int) := by
  rw [addP_vals, ← pF_step hn]
  unfold vals2; rw [List.length_map]
theorem addP_nx {T : PSt} {x y : Int} {hx : inR x} {hy : inR y} {hn : pF (vals2 T.1) (x, y) = none} {F : Int → Int → Int → Int} (h : AgP (addP T x y hx hy hn) F) : AgP T F ∧ ∀ z, F x y z = T.1.length := by
  unfold AgP at h
  rw [addP_pF] at h
  refine ⟨fun a b z i e => h a b z i ?_, fun z => h x y z _ setF_same⟩
  by_cases q : (a, b) = (x, y)
  · rw [q, hn] at e; cases e
  · rw [setF_other q]; exact e
theorem plt_tri (x y : P2) : PLt x y ∨ x = y ∨ PLt y x := by
  unfold PLt
  by_cases h : x = y
  · exact .inr (.inl h)
  · have : x.a ≠ y.a ∨ x.b ≠ y.b := by
      by_cases q : x.a = y.a
      · right; intro r; exact h (by cases x; cases y; simp at q r; rw [q, r])
      · exact .inl q
    omega
/-- The pairs of values, in order. -/
structure PSet (A B : Mg) (S : List P2) : Prop where
  ord : S.Pairwise PLt
  mem : ∀ q, q ∈ S ↔ ∃ e, q = ⟨vl A e, vl B e⟩
theorem sorted_of {T' : List Pr} (hn : (vals2 T').Nodup) (hs : ∀ i j : Nat, i < j → j < T'.length → ¬ PLt (T'[j]!).1 (T'[i]!).1) : (vals2 T').Pairwise PLt := by
  rw [List.pairwise_iff_getElem]
  intro i j hi hj hij
  have hi' : i < T'.length := by simpa using hi
  have hj' : j < T'.length := by simpa using hj
  have h := hs i j hij hj'
  rw [getElem!_pos T' i hi', getElem!_pos T' j hj'] at h
  have ei : (vals2 T')[i] = (T'[i]).1 := by simp [vals2]
  have ej : (vals2 T')[j] = (T'[j]).1 := by simp [vals2]
  rw [ei, ej]
  have hne : (T'[i]).1 ≠ (T'[j]).1 := by
    have := (List.pairwise_iff_getElem.1 hn) i j hi hj hij
    rwa [ei, ej] at this
  rcases plt_tri (T'[i]).1 (T'[j]).1 with q | q | q
  · exact q
  · exact absurd q hne
  · exact absurd q h
theorem len_sub {β : Type} : ∀ {l m : List β}, l.Nodup → (∀ x ∈ l, x ∈ m) → l.length ≤ m.length
  | [], _, _, _ => Nat.zero_le _
  | a :: l, m, hn, h => by
    have hn := List.nodup_cons.1 hn
    have ha := h a (List.mem_cons_self ..)
    have ih := len_sub (l := l) (m := m.erase a) hn.2 fun x hx => (List.mem_erase_of_ne (fun e => hn.1 (by rw [← e]; exact hx))).2 (h x (List.mem_cons_of_mem _ hx))
    have := List.length_erase_of_mem ha
    have := List.length_pos_of_mem ha
    show l.length + 1 ≤ _
    omega
/-- The pairs gathered are the pairs of values. -/
theorem pair_mem {A B : Mg} {L : List Int} {M : List Fk} {T : PSt} {p : Int} (hI : IvP T L) (b : BOk A.v L M) (s : Std A.v [A, B] (ixF (vals2 T.1)) L M (rt [A, B]) p) (hr : ∀ z ∈ L, z ∈ ([] : List Int) ∨ ∃ e, gF [A, B] (ixF (vals2 T.1)) (rt [A, B]) e = z) :
    (∀ e, ∃ i, pF (vals2 T.1) (vl A e, vl B e) = some i) ∧ (∀ i : Int, 0 ≤ i → i < T.1.length → ∃ e, p2 (vals2 T.1) i = ⟨vl A e, vl B e⟩ ∧ pF (vals2 T.1) (vl A e, vl B e) = some i) ∧ ∀ q, q ∈ vals2 T.1 ↔ ∃ e, q = ⟨vl A e, vl B e⟩ := by
  have gf : ∀ F e, gF [A, B] F (rt [A, B]) e = F (vl A e) (vl B e) (gev (mG (dm [A, B] 2)) e (kg (rt [A, B]) 2)) := fun _ _ => rfl
  have hlen : (vals2 T.1).length = T.1.length := by simp [vals2]
  have seen : ∀ e, ∃ i, pF (vals2 T.1) (vl A e, vl B e) = some i := fun e => by
    have hm := bok_val b s.rf e
    rw [s.val e, gf] at hm
    have hm : ixP (vals2 T.1) (vl A e) (vl B e) ∈ L := hm
    rw [hI] at hm
    have := (upN_mem.1 hm).1
    cases h : pF (vals2 T.1) (vl A e, vl B e) with
    | some i => exact ⟨i, rfl⟩
    | none => unfold ixP at this; rw [h] at this; exact absurd this (by decide)
  have all : ∀ i : Int, 0 ≤ i → i < T.1.length → ∃ e, p2 (vals2 T.1) i = ⟨vl A e, vl B e⟩ ∧ pF (vals2 T.1) (vl A e, vl B e) = some i := fun i h0 h1 => by
    obtain ⟨e, he⟩ := (hr i (by rw [hI]; exact upN_mem.2 ⟨h0, h1⟩)).resolve_left (by simp)
    rw [gf] at he
    have he : ixP (vals2 T.1) (vl A e) (vl B e) = i := he
    obtain ⟨j, hj⟩ := seen e
    unfold ixP at he
    rw [hj] at he
    have he : j = i := he
    subst he
    exact ⟨e, (pF_some hj).2, hj⟩
  refine ⟨seen, all, fun q => ⟨fun hq => ?_, ?_⟩⟩
  · obtain ⟨i, h0, h1, e⟩ := mem_p2 hq
    obtain ⟨x, hx, _⟩ := all i h0 (by omega)
    exact ⟨x, by rw [← e, hx]⟩
  · rintro ⟨e, rfl⟩
    obtain ⟨i, hi⟩ := seen e
    obtain ⟨h0, h1⟩ := pF_some hi
    rw [← h1]; exact p2_mem h0.1 h0.2
theorem pair_cnt {A B : Mg} {L : List Int} {M : List Fk} {T : PSt} {p : Int} (hA : Ok A) (hB : Ok B) (hv : A.v = B.v) (hI : IvP T L)
    (hall : ∀ F, AgP T F → BOk A.v L M ∧ Std A.v [A, B] F L M (rt [A, B]) p ∧ ∀ z ∈ L, z ∈ ([] : List Int) ∨ ∃ e, gF [A, B] F (rt [A, B]) e = z) : T.1.length ≤ 2 ^ A.v.toNat := by
  obtain ⟨b, s, hr⟩ := hall _ (agP_ix T)
  have memP := (pair_mem hI b s hr).2.2
  have hlen : (vals2 T.1).length = T.1.length := by simp [vals2]
  rw [← hlen, ← tabv_len (vars := A.v) fun e => (⟨vl A e, vl B e⟩ : P2)]
  refine len_sub T.2 fun q hq => ?_
  obtain ⟨e, rfl⟩ := (memP q).1 hq
  exact (tabv_mem hA.1.1 fun e e' h => by rw [hA.dep e e' h, hB.dep e e' (fun i a c => h i a (by omega))]).2 ⟨e, rfl⟩
/-- What the combination leaves, and what the renumbering makes of it. -/
theorem pair_fin {A B : Mg} {L : List Int} {M : List Fk} {T : PSt} {T' : List Pr} {p : Int} (hA : Ok A) (hB : Ok B) (hv : A.v = B.v) (hI : IvP T L)
    (hall : ∀ F, AgP T F → BOk A.v L M ∧ Std A.v [A, B] F L M (rt [A, B]) p ∧ ∀ z ∈ L, z ∈ ([] : List Int) ∨ ∃ e, gF [A, B] F (rt [A, B]) e = z)
    (hp : T'.Perm T.1) (hs : ∀ i j : Nat, i < j → j < T'.length → ¬ PLt (T'[j]!).1 (T'[i]!).1) :
    PSet A B (vals2 T') ∧ T.1.length ≤ 2 ^ A.v.toNat ∧ (∀ z ∈ L, inR z ∨ ¬ A.v ≤ 12) ∧
      ∀ L2 : List Int, L2.length = L.length → (∀ i : Int, 0 ≤ i → i < L.length → gi L2 i = ixP (vals2 T') (p2 (vals2 T.1) (gi L i)).a (p2 (vals2 T.1) (gi L i)).b) →
        BOk A.v L2 M ∧ Std A.v [A, B] (ixF (vals2 T')) L2 M (rt [A, B]) p ∧ ∀ z ∈ L2, z ∈ ([] : List Int) ∨ ∃ e, gF [A, B] (ixF (vals2 T')) (rt [A, B]) e = z := by
  obtain ⟨b, s, hr⟩ := hall _ (agP_ix T)
  have gf : ∀ F e, gF [A, B] F (rt [A, B]) e = F (vl A e) (vl B e) (gev (mG (dm [A, B] 2)) e (kg (rt [A, B]) 2)) := fun _ _ => rfl
  have hlen : (vals2 T.1).length = T.1.length := by simp [vals2]
  obtain ⟨seen, all, memP⟩ := pair_mem hI b s hr
  have hpv : (vals2 T').Perm (vals2 T.1) := hp.map _
  have memS : ∀ q, q ∈ vals2 T' ↔ ∃ e, q = ⟨vl A e, vl B e⟩ := fun q => by rw [hpv.mem_iff]; exact memP q
  have hnS : (vals2 T').Nodup := (hpv.nodup_iff).2 T.2
  have inS : ∀ e, ∃ i, pF (vals2 T') (vl A e, vl B e) = some i := fun e => pF_mem ((memS _).2 ⟨e, rfl⟩)
  have hcnt := pair_cnt hA hB hv hI hall
  refine ⟨⟨sorted_of hnS hs, memS⟩, hcnt, fun z hz => ?_, fun L2 hl h2 => ?_⟩
  · by_cases h12 : A.v ≤ 12
    · rw [hI] at hz
      have := upN_mem.1 hz
      have p12 : 2 ^ A.v.toNat ≤ 2 ^ 12 := Nat.pow_le_pow_right (by omega) (by omega)
      have : (2 : Nat) ^ 12 = 4096 := by decide
      left; unfold inR; omega
    · exact .inr h12
  · have hLl : L.length = T.1.length := by rw [hI]; exact upN_len _
    have at_ : ∀ i : Int, 0 ≤ i → i < L.length → gi L i = i := fun i h0 h1 => by rw [hI]; exact upN_at h0 (by omega)
    have okI : ∀ r, (bV L M).ok r → (bV L2 M).ok r := fun r h => by
      obtain ⟨h1, h2, h3⟩ := h
      exact ⟨h1, fun q => by rw [hl]; exact h2 q, h3⟩
    have okI' : ∀ r, (bV L2 M).ok r → (bV L M).ok r := fun r h => by
      obtain ⟨h1, h2, h3⟩ := h
      exact ⟨h1, fun q => by rw [← hl]; exact h2 q, h3⟩
    have red2 : GRed A.v (bV L2 M) := by
      have f := b.red
      exact ⟨fun r h => f.vr r (okI' r h), fun r h => f.ne r (okI' r h), fun r h q => by obtain ⟨x, y, z⟩ := f.lo r (okI' r h) q; exact ⟨okI _ x, y, z⟩, fun r h q => by obtain ⟨x, y, z⟩ := f.hi r (okI' r h) q; exact ⟨okI _ x, y, z⟩, fun r s h h1 h2 h3 => f.uq r s (okI' r h) h1 (okI' s h2) h3⟩
    have val2 : ∀ e, gev (bV L2 M) e p = gF [A, B] (ixF (vals2 T')) (rt [A, B]) e := fun e => by
      have g := gv_ext b.red red2 (fun r h => ⟨okI r h, Iff.rfl, rfl⟩) (fun k => ixP (vals2 T') (p2 (vals2 T.1) k).a (p2 (vals2 T.1) k).b) (fun r h q => by
        have q : r % 2 = 0 := q
        have hb := h.2.1 q
        exact h2 (r / 2) (by have := h.1; omega) hb) e _ p s.rf (Nat.le_refl _)
      rw [g, s.val e, gf, gf]
      obtain ⟨i, hi⟩ := seen e
      show ixP _ (p2 _ (ixP (vals2 T.1) (vl A e) (vl B e))).a (p2 _ (ixP (vals2 T.1) (vl A e) (vl B e))).b = ixP _ (vl A e) (vl B e)
      have : ixP (vals2 T.1) (vl A e) (vl B e) = i := by unfold ixP; rw [hi]; rfl
      rw [this, (pF_some hi).2]
    refine ⟨⟨red2, fun i j i0 i1 j0 j1 e => ?_⟩, ⟨okI p s.rf, s.lv, val2⟩, fun z hz => .inr ?_⟩
    · rw [h2 i i0 (by omega), h2 j j0 (by omega), at_ i i0 (by omega), at_ j j0 (by omega)] at e
      obtain ⟨x, hx, hx2⟩ := all i i0 (by omega)
      obtain ⟨y, hy, hy2⟩ := all j j0 (by omega)
      rw [hx, hy] at e
      obtain ⟨a, ha⟩ := inS x
      obtain ⟨c, hc⟩ := inS y
      have e : ixP (vals2 T') (vl A x) (vl B x) = ixP (vals2 T') (vl A y) (vl B y) := e
      unfold ixP at e
      rw [ha, hc] at e
      have e : a = c := e
      subst e
      have e2 := (pF_some ha).2
      rw [(pF_some hc).2] at e2
      have e3 : vl A y = vl A x ∧ vl B y = vl B x := by injection e2 with u w; exact ⟨u, w⟩
      rw [← e3.1, ← e3.2, hy2] at hx2
      exact (Option.some.inj hx2).symm
    · obtain ⟨i, hi, e⟩ := pos_of_getD hz
      rw [h2 i (by omega) (by omega), at_ i (by omega) (by omega)] at e
      obtain ⟨x, hx, _⟩ := all i (by omega) (by omega)
      rw [hx] at e
      exact ⟨x, e⟩
/-- The diagram that Pair returns, of the pairs S. -/
noncomputable abbrev prT (A B : Mg) (S : List P2) : List Int := tabv A.v fun e => ixP S (vl A e) (vl B e)
noncomputable def prD (A B : Mg) (S : List P2) : Mg := if vE [A, B] = 0 then mkD A.v (prT A B S) else zM
theorem prD_0 {A B : Mg} {S : List P2} (h : vE [A, B] = 0) : prD A B S = mkD A.v (prT A B S) := if_pos h
theorem prD_n {A B : Mg} {S : List P2} (h : vE [A, B] ≠ 0) : prD A B S = zM := if_neg h
theorem ixP_in {A B : Mg} {S : List P2} (h : PSet A B S) (e : Int → Bool) : (0 ≤ ixP S (vl A e) (vl B e) ∧ ixP S (vl A e) (vl B e) < S.length) ∧ p2 S (ixP S (vl A e) (vl B e)) = ⟨vl A e, vl B e⟩ := by
  obtain ⟨i, hi⟩ := pF_mem ((h.mem ⟨vl A e, vl B e⟩).2 ⟨e, rfl⟩)
  have q : ixP S (vl A e) (vl B e) = i := by unfold ixP; rw [hi]; rfl
  rw [q]; exact pF_some hi
theorem pset_len {A B : Mg} {S : List P2} (hA : Ok A) (hB : Ok B) (hv : A.v = B.v) (h : PSet A B S) : S.length ≤ 2 ^ A.v.toNat := by
  have hn : S.Nodup := h.ord.imp fun {x y} q e => by subst e; unfold PLt at q; omega
  rw [← tabv_len (vars := A.v) fun e => (⟨vl A e, vl B e⟩ : P2)]
  refine len_sub hn fun q hq => ?_
  obtain ⟨e, rfl⟩ := (h.mem q).1 hq
  exact (tabv_mem hA.1.1 fun e e' h => by rw [hA.dep e e' h, hB.dep e e' (fun i a c => h i a (by omega))]).2 ⟨e, rfl⟩
theorem prT_in {A B : Mg} {S : List P2} (hA : Ok A) (hB : Ok B) (hv : A.v = B.v) (h : PSet A B S) (h12 : A.v ≤ 12) : (∀ z ∈ prT A B S, inR z) ∧ mkE A.v (prT A B S) = 0 := by
  have hl := pset_len hA hB hv h
  have p12 : 2 ^ A.v.toNat ≤ 2 ^ 12 := Nat.pow_le_pow_right (by omega) (by omega)
  have : (2 : Nat) ^ 12 = 4096 := by decide
  have hin : ∀ z ∈ prT A B S, inR z := fun z hz => by
    have hd : Dep A.v fun e => ixP S (vl A e) (vl B e) := fun e e' q => by show ixP S (vl A e) (vl B e) = ixP S (vl A e') (vl B e'); rw [hA.dep e e' q, hB.dep e e' (fun i a c => q i a (by omega))]
    obtain ⟨e, rfl⟩ := (tabv_mem hA.1.1 hd).1 hz
    have := (ixP_in h e).1
    unfold inR; omega
  exact ⟨hin, (mk_small h12 (tabv_len _) hin).1⟩
end Go.Proofs.YtkmhjcjpohpiaaaGreat

namespace Go.Proofs.YtkmhjcjpohpiaaaGreat
open Go Go.Vc
open Classical
/-- The sum over the variables of a list. -/
def sumO (g : (Int → Bool) → Int) : List Int → (Int → Bool) → Int
  | [], e => g e
  | i :: R, e => sumO g R (up e i false) + sumO g R (up e i true)
/-- While variables are summed out: R is what is left. -/
structure SInv (n total : Int) (R : List Int) (A : Mg) : Prop where
  ok : Ok A
  v : A.v = n
  n12 : n ≤ 12
  nod : R.Nodup
  rg : ∀ i ∈ R, 0 ≤ i ∧ i < n
  sum : ∀ e, sumO (vl A) R e = total
  bd : ∀ e, (-67108864 ≤ vl A e * 2 ^ R.length) ∧ vl A e * 2 ^ R.length ≤ 67108864
end Go.Proofs.YtkmhjcjpohpiaaaGreat

namespace Go.Proofs.YtkmhjcjpohpiaaaGreat
open Go Go.Vc
open Classical
section
variable {n : Int} {T : List Int}
end
theorem two_ok {A B : Mg} (hA : Ok A) (hB : Ok B) (hv : A.v = B.v) : vE [A, B] = 0 := vE_0 (vld2.2 ⟨hA, hB⟩) (sam2.2 hv)
end Go.Proofs.YtkmhjcjpohpiaaaGreat

namespace Go.Vc
open Go Go.RowKit
section
variable {P : Program} {C : Cx} {N : Nat} {K : K3} {Q : Ex → K3} {env : Env} {V : HV} {σ : Res} {ops : Array Oper} {rest : List Oper} {w : World}
variable {d k b s : Nat} {dst : Option Nat} {x y z : Operand} {t T T' T2 E : TypeId} {pos : String} {af : Array Edge} {g : Option (Nat × Bool)} {v : Value} {c : Code}

theorem Mem.of_gr {n : Nat} {xs : List Value} (hm : Mem C V σ w) (hn : 0 < n) (hk : σ[k]? = some (Gr E s v n xs)) :
    ∃ b cap cs, v = .slice (some ⟨b, 0, none⟩) n cap ∧ n ≤ cap ∧ cap ≤ maxLen ∧ cs.length = cap * s ∧ cs.take (n * s) = xs ∧ Mem C V (σ.set k (Arr E b cs)) w := by
  obtain ⟨hs, s1, s2, s3⟩ := hm.own
  obtain ⟨hh, e, hl, hg⟩ := s1.get hk
  rcases hg with ⟨_, hn', _⟩ | ⟨b, cap, cur, e1, e2, q1, q2, q3, q4⟩
  · omega
  · have hb : w.heap[b]? = some (.cells cur E (0, 0)) := (s3 _ (List.mem_of_getElem? e)).1 b _ (by rw [e2]; simp [one])
    refine ⟨b, cap, cur.toList, e1, q1, q2, by simpa using q3, q4, hm.upd hk fun h hA hs hd => ?_⟩
    rcases hA.2 with ⟨f1, _⟩ | ⟨b', cap', cur', f1, f2, _⟩
    · rw [e1] at f1; cases f1
    · rw [e1] at f1
      simp only [Value.slice.injEq, Option.some.injEq, Addr.mk.injEq, and_true, true_and] at f1
      obtain ⟨rfl, rfl⟩ := f1
      have hb2 : w.heap[b]? = some (.cells cur' E (0, 0)) := hs b _ (by rw [f2]; simp [one])
      rw [hb] at hb2
      have hcc : cur = cur' := by injection hb2 with q; injection q
      subst hcc
      have hA2 : Arr E b cur.toList h := by show h = one b _; rw [f2]
      exact Mem.single rfl rfl rfl (Nat.le_refl _) (fun _ _ _ => rfl) hm.view hd hs hA2 (fun _ _ q => q)
theorem vc_of_gr {n : Nat} {xs : List Value} (hn : 0 < n) (hk : σ[k]? = some (Gr E s v n xs))
    (h : ∀ b cap cs, v = .slice (some ⟨b, 0, none⟩) n cap → n ≤ cap → cap ≤ maxLen → cs.length = cap * s → cs.take (n * s) = xs → VC P C N c K Q env V (σ.set k (Arr E b cs))) : VC P C N c K Q env V σ := fun a w hf hm => by
  obtain ⟨b, cap, cs, h1, h2, h3, h4, h5, h6⟩ := hm.of_gr hn hk
  exact h b cap cs h1 h2 h3 h4 h5 a w hf h6
theorem vc_to_gr {b n cap : Nat} {cs : List Value} (s : Nat) (xs : List Value) (hk : σ[k]? = some (Arr E b cs)) (hx : xs.length = n * s) (hn : n ≤ cap) (hm' : cap ≤ maxLen) (hc : cs.length = cap * s)
    (ht : cs.take (n * s) = xs) (h : VC P C N c K Q env V (σ.set k (Gr E s (.slice (some ⟨b, 0, none⟩) n cap) n xs))) : VC P C N c K Q env V σ := fun a w hf hm =>
  h a w hf (hm.to_gr (cs := cs.toArray) hk hx hn hm' (by simpa using hc) (by simpa using ht))
/-- The place of an element in a row. -/
theorem qv_iao {off n cp o : Nat} {i : Int} {kk : IntKind} (hT : P.underlying T = some (.slice E)) (hS : SizeIs P E s) (hx : ev env x = .slice (some ⟨b, off, none⟩) n cp) (hy : ev env y = .int kk i) (h0 : 0 ≤ i) (h1 : i < n) (ho : off + i.toNat * s = o) :
    QV P C ⟨dst, .indexAddr T x y, t, pos, af, g⟩ env V σ (.pointer (some ⟨b, o, none⟩)) := qv_run fun w hm => by
  subst ho
  have e : (⟨b, off, none⟩ : Addr).add (i.toNat * s) = ⟨b, off + i.toNat * s, none⟩ := by
    unfold Addr.add; split <;> simp_all
  simp only [execOp, hx, hy, Instr.indexAt, asIntOf, underlying]
  simp [hT, run_sizeOf hS, h0, h1, e]
/-- The part of a row from lo on. -/
theorem qv_sliceLoN {n cp : Nat} {kk : IntKind} {lo : Int} (hT : P.underlying T = some (.slice E)) (hS : SizeIs P E s) (hx : ev env x = .slice (some ⟨b, 0, none⟩) n cp) (hy : ev env y = .int kk lo) (h0 : 0 ≤ lo) (h1 : lo < n) (hc : n ≤ cp) :
    QV P C ⟨dst, .slice T x (some y) none none, t, pos, af, g⟩ env V σ (.slice (some ⟨b, lo.toNat * s, none⟩) (n - lo.toNat) (cp - lo.toNat)) := qv_run fun w _ => by
  obtain ⟨q, rfl⟩ : ∃ q : Nat, lo = q := ⟨lo.toNat, by omega⟩
  have h3 : (⟨b, 0, none⟩ : Addr).add (q * s) = ⟨b, q * s, none⟩ := by
    unfold Addr.add; split <;> simp_all
  have h6 : q ≤ n := by omega
  have h7 : ¬ cp = q := by omega
  have h8 : q ≤ cp := by omega
  simp only [Int.toNat_natCast]
  simp [execOp, hx, hy, Instr.sliceAt, Instr.slice, run_underlying hT, Instr.sliceBounds, Instr.sliceBound, asIntOf, run_sizeOf hS, h3, h6, h7, hc]
theorem qv_sliceHiN {n cp : Nat} {kk : IntKind} {hi : Int} (hT : P.underlying T = some (.slice E)) (hS : SizeIs P E s) (hx : ev env x = .slice (some ⟨b, 0, none⟩) n cp) (hy : ev env y = .int kk hi) (h0 : 0 ≤ hi) (h1 : hi ≤ cp) :
    QV P C ⟨dst, .slice T x none (some y) none, t, pos, af, g⟩ env V σ (.slice (some ⟨b, 0, none⟩) hi.toNat cp) := qv_run fun w _ => by
  have r := run_slice_hi (P := P) (a := some ⟨b, 0, none⟩) (n := n) (c := cp) (h := hi.toNat) (kk := kk) hT hS (by omega) w
  rw [show ((hi.toNat : Nat) : Int) = hi by omega] at r
  simp [execOp, hx, hy, Instr.sliceAt, run_underlying hT, r]
/-- clear of a part of a row: some cells, the same number. -/
theorem ops_clear {off n cp : Nat} {cs : List Value} {z0 : Value} {yy : Nat} (hT : P.underlying T = some (.slice E)) (hi : TI P E z0 s yy) (hz : z0.cells.size = s) (h1 : z0.cells.toList.all (·.oneCell') = true) (hx : ev env x = .slice (some ⟨b, off, none⟩) n cp) (hn : 0 < n) (hk : σ[k]? = some (Arr T' b cs))
    (hfit : off + n * s ≤ cs.length)
    (h : ∀ news : List Value, news.length = n * s → Ops P C N ops K rest env V (σ.set k (Arr T' b (cs.take off ++ news ++ cs.drop (off + n * s))))) :
    Ops P C N ops K (⟨none, .call { callee := .builtin .clear, args := #[x], argTypes := #[T] }, t, pos, af, none⟩ :: rest) env V σ := fun a w hf hm => by
  refine wpList_plain rfl fun K' hK' => ?_
  unfold Oper.wp
  have hb := (hm.blk hk).1
  have hb : w.heap[b]? = some (.cells cs.toArray T' (0, 0)) := hb
  obtain ⟨i, i1, i2, i3, i4⟩ := hi.out
  obtain ⟨news, hnews⟩ : ∃ l, l = (Builtin.zeroCells z0.cells n).toList := ⟨_, rfl⟩
  have hln : news.length = n * s := by rw [hnews]; simp [Builtin.zeroCells, hz]
  have hone : ∀ u ∈ news, u.oneCell' = true := fun u hu => by
    rw [hnews] at hu
    simp only [Builtin.zeroCells, Array.toList_map, List.mem_map] at hu
    obtain ⟨j, hj, rfl⟩ := hu
    have hj2 : j < n * z0.cells.size := by simpa using hj
    have hpos : 0 < z0.cells.size := by
      rcases Nat.eq_zero_or_pos z0.cells.size with q | q
      · rw [q] at hj2; omega
      · exact q
    have hlt : j % z0.cells.size < z0.cells.size := Nat.mod_lt _ hpos
    have hmem : z0.cells[j % z0.cells.size]! ∈ z0.cells.toList := by
      rw [getElem!_pos z0.cells _ hlt]; simp
    exact List.all_eq_true.1 h1 _ hmem
  have hst := run_storeCells_at P b off T' news 0 cs.toArray w hb (by simp; omega) hone
  simp only [Nat.add_zero, hln] at hst
  have hrow : w.setRow b (cs.take off ++ news ++ cs.drop (off + n * s)).toArray = { w with heap := w.heap.setIfInBounds b (.cells (cs.take off ++ news ++ cs.drop (off + n * s)).toArray T' (0, 0)) } := by
    unfold World.setRow
    congr 1
    have hlt : b < w.heap.size := hv_lt (w := w) hb
    apply Array.ext
    · simp
    · intro i q1 q2
      simp only [Array.getElem_modify]
      by_cases hi : b = i
      · subst hi
        have : w.heap[b] = .cells cs.toArray T' (0, 0) := by rw [Array.getElem?_eq_getElem hlt] at hb; exact Option.some.inj hb
        simp [this]
      · rw [if_neg hi, Array.getElem_setIfInBounds_ne _ hi]
  have hcl : (Builtin.clear_ #[T] t #[.slice (some ⟨b, off, none⟩) n cp]).run P w = .ok (.tuple #[]) (w.setRow b (cs.take off ++ news ++ cs.drop (off + n * s)).toArray) := by
    obtain ⟨m, rfl⟩ : ∃ m, n = m + 1 := ⟨n - 1, by omega⟩
    simp [Builtin.clear_, run_underlying hT, zeroValue, typeInfo, i1, i2, ← hnews, hst]
  have e : (execOp (ev env) ⟨none, .call { callee := .builtin .clear, args := #[x], argTypes := #[T] }, t, pos, af, none⟩).run P w = .ok (.value (.tuple #[])) { w with heap := w.heap.setIfInBounds b (.cells (cs.take off ++ news ++ cs.drop (off + n * s)).toArray T' (0, 0)) } := by
    rw [← hrow]
    simp only [execOp, resolve, invoke, builtin, Sem.run_bind, Sem.run_pure, Result.andThen_ok, List.map_toArray, List.map_cons, List.map_nil, hx, hcl]
  rw [hf.eval, e]
  exact hK' _ _ (h news hln _ _ (hf.put none _) (hm.setBlk hk _ _ rfl))
theorem qv_fasG {i : Int} {f o m : Nat} {E2 : TypeId} {xs : List Value} (hF : FieldIs P T f o) (hx : ev env x = eptr v i s) (hk : σ[k]? = some (Gr E2 s v m xs)) (h0 : 0 ≤ i) (h1 : i < m) : QV P C ⟨dst, .fieldAddr T x f, t, pos, af, g⟩ env V σ (fptr v i s o) := fun w hm => by
  obtain ⟨b, off, cs, T', fz, c, e, _, _, e3, e4, _⟩ := (hm.grSls hk).at h0 h1
  rw [e4 o, ← Nat.add_assoc]
  exact qv_fa hF (hx.trans e3) w hm
theorem qv_ldfG {i : Int} {o m : Nat} {E2 : TypeId} {xs : List Value} {u : Value} (hP : Plain P T) (hx : ev env x = fptr v i s o) (hk : σ[k]? = some (Gr E2 s v m xs)) (h0 : 0 ≤ i) (h1 : i < m) (ho : o < s) (hu : xs[i.toNat * s + o]? = some u) : QV P C ⟨dst, .load T x, t, pos, af, g⟩ env V σ u := qv_run fun w hm => by
  obtain ⟨b, off, cs, T', fz, c, e, _, e2, _, e4, e5⟩ := (hm.grSls hk).at h0 h1
  rw [e4 o] at hx
  have hb : w.heap[b]? = some (.cells cs T' fz) := e2
  have hcell : w.cell? ⟨b, off + (i.toNat * s + o), none⟩ = some u := by
    unfold World.cell?
    simp only [hb]
    rw [← hu, ← e5 o ho]
    rfl
  simp [execOp, hx, Instr.loadAt, Instr.sureAddr, loadVar, run_plain hP, load, Sem.run, hcell]
theorem ops_stgf {n o : Nat} {i : Int} {u : Value} {xs xs' : List Value} (hS : SizeIs P T 1) (hx : ev env x = fptr v i s o) (hy : ev env y = u) (hv1 : u.oneCell' = true) (hk : σ[k]? = some (Gr E s v n xs)) (h0 : 0 ≤ i) (h1 : i < n) (ho : o < s) (hxs : xs.set (i.toNat * s + o) u = xs')
    (h : Ops P C N ops K rest env V (σ.set k (Gr E s v n xs'))) : Ops P C N ops K (⟨none, .store T x y, t, pos, af, none⟩ :: rest) env V σ := fun a w hf hm => by
  subst hxs
  refine wpList_plain rfl fun K' hK' => ?_
  unfold Oper.wp
  obtain ⟨hs, s1, s2, s3⟩ := hm.own
  obtain ⟨hh, e, hl, hg⟩ := s1.get hk
  rcases hg with ⟨rfl, hn, _⟩ | ⟨gb, cap, cur, rfl, rfl, q1, q2, q3, q4⟩
  · omega
  · have hb : w.heap[gb]? = some (.cells cur E (0, 0)) := (s3 _ (List.mem_of_getElem? e)).1 gb _ (by simp [one])
    have hle : (i.toNat + 1) * s ≤ n * s := Nat.mul_le_mul_right s (by omega)
    have hle2 : n * s ≤ cap * s := Nat.mul_le_mul_right s q1
    rw [Nat.add_mul, Nat.one_mul] at hle
    have hil : i.toNat * s + o < cur.toList.length := by rw [Array.length_toList]; omega
    have e1 : cur = cur.toList.toArray := by simp
    rw [e1] at hb
    have hx2 : ev env x = .pointer (some ⟨gb, i.toNat * s + o, none⟩) := by rw [hx]; simp only [fptr]; rw [add_none, Nat.zero_add]
    have run : (execOp (ev env) ⟨none, .store T x y, t, pos, af, none⟩).run P w = .ok .skip { w with heap := w.heap.setIfInBounds gb (.cells (cur.toList.set (i.toNat * s + o) u).toArray E (0, 0)) } := by
      simp [execOp, hx2, hy, Instr.storeAt, Instr.sureAddr, run_storeVar_one hS hv1 hb hil]
    rw [hf.eval, run]
    refine hK' _ _ (h _ _ (hf.put none _) (hm.upd hk fun q hq hqs hqd => ?_))
    have hqb : q gb ≠ none := by
      obtain ⟨_, hq⟩ := hq
      rcases hq with ⟨e, _⟩ | ⟨g2, _, _, e, rfl, _⟩
      · cases e
      · simp only [Value.slice.injEq, Option.some.injEq, Addr.mk.injEq] at e
        rw [e.1.1]; simp [one]
    refine Mem.single (h' := one gb (.cells (cur.toList.set (i.toNat * s + o) u).toArray E (0, 0))) rfl rfl rfl (by simp) (fun c hc hn => ?_) hm.view hqd (fun c o2 hc => ?_) ⟨by simp [hl], .inr ⟨gb, cap, _, rfl, rfl, q1, q2, by simp [q3], ?_⟩⟩ (fun c hc hn => ?_)
    · have hne : gb ≠ c := fun e => by subst e; exact hqb hn
      show (w.heap.setIfInBounds gb _)[c]? = _
      rw [Array.getElem?_setIfInBounds, if_neg hne]
    · unfold one at hc
      split at hc
      · rename_i e; subst e; cases hc
        show (w.heap.setIfInBounds c _)[c]? = _
        rw [Array.getElem?_setIfInBounds, if_pos rfl, if_pos (hv_lt (w := w) hb)]
      · cases hc
    · show (cur.toList.set (i.toNat * s + o) u).take (n * s) = xs.set (i.toNat * s + o) u
      rw [List.take_set, q4]
    · unfold one at hn
      split at hn
      · rename_i e; subst e; exact hqb
      · simp at hn
end
end Go.Vc

namespace Go.Proofs.YtkmhjcjpohpiaaaGreat
open Go Go.RowKit Go.Vc
theorem p2r_at {N : List P2} {rs : List Value} {i : Int} (h0 : 0 ≤ i) (h1 : i < N.length) : ((p2s N ++ rs).drop (i.toNat * 2)).take 2 = [.int .i64 (p2 N i).a, .int .i64 (p2 N i).b] := by
  have hl := p2s_len N
  rw [← p2s_at h0 h1, List.drop_append_of_le_length (by omega), List.take_append_of_le_length (by rw [List.length_drop]; omega)]
theorem p2s_app (A B : List P2) : p2s (A ++ B) = p2s A ++ p2s B := by simp [p2s]
theorem p2s_take (N : List P2) (n : Nat) : (p2s N).take (n * 2) = p2s (N.take n) := by
  induction N generalizing n with
  | nil => simp [p2s]
  | cons a l ih =>
    cases n with
    | zero => simp [p2s]
    | succ n =>
      show (p2c a ++ p2s l).take ((n + 1) * 2) = p2c a ++ p2s (l.take n)
      rw [← ih, show (n + 1) * 2 = (p2c a).length + n * 2 by show _ = 2 + n * 2; omega, List.take_length_add_append]
theorem p2s_drop (N : List P2) (n : Nat) : (p2s N).drop (n * 2) = p2s (N.drop n) := by
  induction N generalizing n with
  | nil => simp [p2s]
  | cons a l ih =>
    cases n with
    | zero => simp [p2s]
    | succ n =>
      show (p2c a ++ p2s l).drop ((n + 1) * 2) = p2s (l.drop n)
      rw [← ih, show (n + 1) * 2 = (p2c a).length + n * 2 by show _ = 2 + n * 2; omega, List.drop_length_add_append]
theorem set_tdn {α : Type} {N : List α} {n : Nat} {q : α} (h : n < N.length) : N.set n q = N.take n ++ q :: N.drop (n + 1) := by
  rw [List.set_eq_take_append_cons_drop, if_pos h]
theorem p2r_set {N : List P2} {rs : List Value} {i : Int} {x y : Int} (h0 : 0 ≤ i) (h1 : i < N.length) :
    (p2s N ++ rs).take (i.toNat * 2) ++ [.int .i64 x, .int .i64 y] ++ (p2s N ++ rs).drop (i.toNat * 2 + [Value.int .i64 x, .int .i64 y].length) = p2s (N.set i.toNat ⟨x, y⟩) ++ rs := by
  have hl := p2s_len N
  rw [show i.toNat * 2 + [Value.int .i64 x, .int .i64 y].length = (i.toNat + 1) * 2 by show i.toNat * 2 + 2 = _; omega, List.take_append_of_le_length (by omega), List.drop_append_of_le_length (by omega), p2s_take, p2s_drop, set_tdn (by omega), p2s_app]
  show p2s (N.take i.toNat) ++ p2c ⟨x, y⟩ ++ (p2s (N.drop (i.toNat + 1)) ++ rs) = (p2s (N.take i.toNat) ++ (p2c ⟨x, y⟩ ++ p2s (N.drop (i.toNat + 1)))) ++ rs
  simp [List.append_assoc]
theorem p2r_ho {N : List P2} {rs : List Value} {i : Int} {x y : Int} (h0 : 0 ≤ i) (h1 : i < N.length) : i.toNat * 2 + [Value.int .i64 x, .int .i64 y].length ≤ (p2s N ++ rs).length := by
  have hl := p2s_len N
  rw [List.length_append]
  show i.toNat * 2 + 2 ≤ _; omega
theorem p2s_setb {N : List P2} {i : Int} {z : Int} (h0 : 0 ≤ i) (h1 : i < N.length) : (p2s N).set (i.toNat * 2 + 1) (.int .i64 z) = p2s (N.set i.toNat ⟨(p2 N i).a, z⟩) := by
  have hl := p2s_len N
  have := p2r_set (N := N) (rs := []) (x := (p2 N i).a) (y := z) h0 h1
  rw [List.append_nil, List.append_nil] at this
  rw [← this, set_tdn (by omega)]
  have e1 : (p2s N).take (i.toNat * 2 + 1) = (p2s N).take (i.toNat * 2) ++ [.int .i64 (p2 N i).a] := by
    have e0 : (p2s N)[i.toNat * 2]? = some (.int .i64 (p2 N i).a) := p2s_el (o := 0) h0 h1 (by omega) rfl
    rw [List.take_add_one, e0]; rfl
  rw [e1]
  show _ = (p2s N).take (i.toNat * 2) ++ [.int .i64 (p2 N i).a, .int .i64 z] ++ (p2s N).drop (i.toNat * 2 + 2)
  simp
theorem open_row {cs : List Value} {X : List P2} {n : Nat} (hn : n = X.length) (h : cs.take (n * 2) = p2s X) : ∃ rs, cs = p2s X ++ rs := ⟨cs.drop (n * 2), by rw [← h]; simp⟩
theorem clr_take {Y : List P2} {rs nw D : List Value} {n : Nat} (h : n ≤ Y.length) : ((p2s Y ++ rs).take (n * 2) ++ nw ++ D).take (n * 2) = p2s (Y.take n) := by
  have hl := p2s_len Y
  have e : (p2s Y ++ rs).take (n * 2) = p2s (Y.take n) := by rw [List.take_append_of_le_length (by omega), p2s_take]
  rw [e, List.append_assoc, List.take_left' (by rw [p2s_len, List.length_take]; omega)]
theorem clr_len {cs nw : List Value} {o m : Nat} (h : o + m ≤ cs.length) (hw : nw.length = m) : (cs.take o ++ nw ++ cs.drop (o + m)).length = cs.length := by
  rw [List.length_append, List.length_append, List.length_take, List.length_drop]; omega
theorem p2r_len {Y X : List P2} {rs : List Value} (h : Y.length = X.length) : (p2s Y ++ rs).length = (p2s X ++ rs).length := by
  rw [List.length_append, List.length_append, p2s_len, p2s_len, h]
theorem p2_nat {N : List P2} {i : Int} (h0 : 0 ≤ i) (h1 : i < N.length) : p2 N i = N[i.toNat]'(by omega) := by
  unfold p2; rw [List.getD_eq_getElem?_getD, List.getElem?_eq_getElem (by omega)]; rfl
theorem p2_set {N : List P2} {i j : Int} {q : P2} (h0 : 0 ≤ i) (h1 : i < N.length) (h2 : 0 ≤ j) : p2 (N.set i.toNat q) j = if i = j then q else p2 N j := by
  unfold p2; rw [List.getD_eq_getElem?_getD, List.getElem?_set]
  by_cases h : i = j
  · rw [if_pos (by omega), if_pos h, if_pos (by omega)]; rfl
  · rw [if_neg (by omega), if_neg h, List.getD_eq_getElem?_getD]
end Go.Proofs.YtkmhjcjpohpiaaaGreat

namespace Go.Proofs.YtkmhjcjpohpiaaaGreat
open Go Go.RowKit Go.Shelf Go.Proofs Go.Lib Go.Sort Go.Vc
/-- The list is in order, if not strictly. -/
def Asc2 (X : List P2) : Prop := ∀ i j : Int, 0 ≤ i → i < j → j < X.length → ¬ PLt (p2 X j) (p2 X i)
/-- R is what is left of the first m elements of X. -/
def CpI (X : List P2) (m : Int) (R : List P2) : Prop :=
  (∀ z, z ∈ R ↔ ∃ i : Int, 0 ≤ i ∧ i < m ∧ p2 X i = z) ∧ (Asc2 X → R.Pairwise PLt ∧ ∀ z ∈ R, z = p2 X (m - 1) ∨ PLt z (p2 X (m - 1)))
theorem cpI_keep {X R : List P2} {m : Int} (h : CpI X m R) (h1 : 1 ≤ m) (e : p2 X m = p2 X (m - 1)) : CpI X (m + 1) R := by
  refine ⟨fun z => (h.1 z).trans ⟨fun ⟨i, a, b, c⟩ => ⟨i, a, by omega, c⟩, fun ⟨i, a, b, c⟩ => ?_⟩, fun s => ?_⟩
  · by_cases hi : i < m
    · exact ⟨i, a, hi, c⟩
    · exact ⟨m - 1, by omega, by omega, by rw [← e, show m = i by omega]; exact c⟩
  · rw [show m + 1 - 1 = m by omega, e]; exact h.2 s
theorem plt_trans {x y z : P2} (h1 : PLt x y) (h2 : PLt y z) : PLt x z := by unfold PLt at *; omega
theorem cpI_new {X R : List P2} {m : Int} (h : CpI X m R) (h1 : 1 ≤ m) (h2 : m < X.length) (e : ¬ p2 X m = p2 X (m - 1)) : CpI X (m + 1) (R ++ [p2 X m]) := by
  refine ⟨fun z => ?_, fun s => ?_⟩
  · rw [List.mem_append, h.1 z, List.mem_singleton]
    constructor
    · rintro (⟨i, a, b, c⟩ | q)
      · exact ⟨i, a, by omega, c⟩
      · exact ⟨m, by omega, by omega, q.symm⟩
    · rintro ⟨i, a, b, c⟩
      by_cases hi : i < m
      · exact .inl ⟨i, a, hi, c⟩
      · exact .inr (by rw [← c, show i = m by omega])
  · obtain ⟨p, q⟩ := h.2 s
    have hlt : PLt (p2 X (m - 1)) (p2 X m) := by
      rcases plt_tri (p2 X (m - 1)) (p2 X m) with t | t | t
      · exact t
      · exact absurd t.symm e
      · exact absurd t (s (m - 1) m (by omega) (by omega) h2)
    have hall : ∀ z ∈ R, PLt z (p2 X m) := fun z hz => by
      rcases q z hz with t | t
      · rw [t]; exact hlt
      · exact plt_trans t hlt
    rw [show m + 1 - 1 = m by omega]
    refine ⟨List.pairwise_append.2 ⟨p, List.pairwise_singleton _ _, fun a ha b hb => by rw [List.mem_singleton] at hb; rw [hb]; exact hall a ha⟩, fun z hz => ?_⟩
    rcases List.mem_append.1 hz with t | t
    · exact .inr (hall z t)
    · exact .inl (List.mem_singleton.1 t)
theorem cpI_1 {X : List P2} (h : 0 < X.length) : CpI X 1 (X.take 1) := by
  obtain ⟨a, l, rfl⟩ := List.exists_cons_of_length_pos h
  show CpI (a :: l) 1 [a]
  refine ⟨fun z => ?_, fun _ => ⟨List.pairwise_singleton _ _, fun z hz => .inl (List.mem_singleton.1 hz)⟩⟩
  rw [List.mem_singleton]
  constructor
  · rintro rfl; exact ⟨0, by omega, by omega, rfl⟩
  · rintro ⟨i, p, q, r⟩; have : i = 0 := by omega
    subst this; exact r.symm
theorem take_p2 {X : List P2} {m : Int} (h0 : 0 ≤ m) (h1 : m < X.length) : X.take m.toNat ++ [p2 X m] = X.take (m + 1).toNat := by
  rw [show (m + 1).toNat = m.toNat + 1 by omega, List.take_add_one, List.getElem?_eq_getElem (by omega), p2_nat h0 h1]; rfl
theorem cpI_all {X : List P2} {k : Int} (h : CpI X k (X.take k.toNat)) (h1 : 1 ≤ k) (h2 : k < X.length) (e : ¬ p2 X k = p2 X (k - 1)) : CpI X (k + 1) (X.take (k + 1).toNat) := by
  rw [← take_p2 (by omega) h2]; exact cpI_new h h1 h2 e
/-- What Compact leaves. -/
def CpF (X R : List P2) : Prop := (∀ z, z ∈ R ↔ z ∈ X) ∧ (Asc2 X → R.Pairwise PLt) ∧ R.length ≤ X.length
theorem cpF_of {X R : List P2} (h : CpI X X.length R) (hl : R.length ≤ X.length) : CpF X R :=
  ⟨fun z => (h.1 z).trans ⟨fun ⟨i, a, b, c⟩ => by rw [← c]; exact p2_mem a b, fun q => by obtain ⟨i, a, b, c⟩ := mem_p2 q; exact ⟨i, a, b, c⟩⟩, fun s => (h.2 s).1, hl⟩
theorem cpF_small {X : List P2} (h : X.length < 2) : CpF X X := by
  refine ⟨fun z => .rfl, fun _ => ?_, Nat.le_refl _⟩
  match X, h with
  | [], _ => exact .nil
  | [a], _ => exact List.pairwise_singleton _ _
  | _ :: _ :: _, h => simp at h; omega
structure Cp2 (X Y : List P2) (k m : Int) : Prop where
  len : Y.length = X.length
  ci : CpI X m (Y.take k.toNat)
  same : ∀ j : Int, m - 1 ≤ j → j < X.length → p2 Y j = p2 X j
theorem cp2_0 {X : List P2} {k : Int} (h : CpI X k (X.take k.toNat)) (h1 : 1 ≤ k) (e : p2 X k = p2 X (k - 1)) : Cp2 X X k (k + 1) := ⟨rfl, cpI_keep h h1 e, fun _ _ _ => rfl⟩
theorem Cp2.keep {X Y : List P2} {k m : Int} (h : Cp2 X Y k m) (h1 : 1 ≤ m) (h2 : m < X.length) (e : p2 Y m = p2 Y (m - 1)) : Cp2 X Y k (m + 1) := by
  refine ⟨h.len, cpI_keep h.ci h1 ?_, fun j a b => h.same j (by omega) b⟩
  rw [h.same m (by omega) h2, h.same (m - 1) (by omega) (by omega)] at e; exact e
theorem Cp2.new {X Y : List P2} {k m : Int} (h : Cp2 X Y k m) (h1 : 1 ≤ m) (h2 : m < X.length) (k0 : 0 ≤ k) (k1 : k ≤ m - 1) (e : ¬ p2 Y m = p2 Y (m - 1)) : Cp2 X (Y.set k.toNat (p2 Y m)) (k + 1) (m + 1) := by
  have hl := h.len
  rw [h.same m (by omega) h2, h.same (m - 1) (by omega) (by omega)] at e
  refine ⟨by rw [List.length_set]; exact hl, ?_, fun j a b => ?_⟩
  · have : (Y.set k.toNat (p2 Y m)).take (k + 1).toNat = Y.take k.toNat ++ [p2 X m] := by
      rw [show (k + 1).toNat = k.toNat + 1 by omega, List.take_add_one, List.getElem?_set, if_pos rfl, if_pos (by omega), List.take_set_of_le (Nat.le_refl _), h.same m (by omega) h2]; rfl
    rw [this]; exact cpI_new h.ci h1 h2 e
  · rw [p2_set k0 (by omega) (by omega), if_neg (by omega)]; exact h.same j (by omega) b
theorem asc2_of {T : List Pr} (h : ∀ i j : Nat, i < j → j < T.length → ¬ PLt (T[j]!).1 (T[i]!).1) : Asc2 (vals2 T) := fun i j h0 h1 h2 => by
  have hl : (vals2 T).length = T.length := List.length_map ..
  have e : ∀ i : Int, 0 ≤ i → i < (vals2 T).length → p2 (vals2 T) i = (T[i.toNat]!).1 := fun i a b => by
    rw [p2_nat a b, getElem!_pos T i.toNat (by omega)]; simp [vals2]
  rw [e i h0 (by omega), e j (by omega) h2]
  exact h i.toNat j.toNat (by omega) (by omega)
end Go.Proofs.YtkmhjcjpohpiaaaGreat

namespace Go.Proofs.YtkmhjcjpohpiaaaGreat
open Go Go.RowKit Go.Shelf Go.Proofs Go.Lib Go.Sort Go.Vc
set_option maxRecDepth 100000 in
set_option maxHeartbeats 600000 in
theorem cmpQ_calls (x y : Pr) (W : World) : Calls Tryz.prog 54 #[p2a x.1, p2a y.1] W fun e w' => e = .returned (.int .i64 (cmpP x.1 y.1)) ∧ ∃ q os', w' = grow (W.drewN q) os' := by
  obtain ⟨⟨x1, x2⟩, hx⟩ := x
  obtain ⟨⟨y1, y2⟩, hy⟩ := y
  obtain ⟨⟨a1, a2⟩, a3, a4⟩ := hx
  obtain ⟨⟨b1, b2⟩, b3, b4⟩ := hy
  have w1 : wrap64 (x1 - y1) = x1 - y1 := (by unfold wrap64; dsimp only at *; omega)
  have w2 : wrap64 (x2 - y2) = x2 - y2 := (by unfold wrap64; dsimp only at *; omega)
  dsimp only at *
  go_enter Tryz.func54, Tryz.ntmps54
  go_wp2
  · rename_i h
    go_ret
    have h : x1 ≠ y1 := by simpa using h
    exact ⟨by unfold cmpP; rw [if_pos h]; rfl, 0, _, by rw [alloc_eq_grow, alloc_eq_grow, grow_grow]; rfl⟩
  · rename_i h
    go_ret
    have h : x1 = y1 := by simpa using h
    exact ⟨by unfold cmpP; rw [if_neg (fun q => q h)]; rfl, 0, _, by rw [alloc_eq_grow, alloc_eq_grow, grow_grow]; rfl⟩
theorem SortQ_c {V : HV} {v : Value} {T : List Pr} (h : T.length < 4611686018427387904) :
    FnC Tryz.prog 53 [v, .func (.func 54) #[] #[]] V [Gr 50 2 v T.length (p2s (vals2 T))] (fun u V' σ' => u = .tuple #[] ∧ V' = V ∧ ∃ T' : List Pr, T'.Perm T ∧ Asc2 (vals2 T') ∧ σ' = [Gr 50 2 v T.length (p2s (vals2 T'))]) := by
  rw [← flat_p2]
  refine (FnC.sortK (P := Tryz.prog) (ρ := Tryz.laysSlPair_ren) Tryz.laysSlPair (enc := fun x : Pr => p2c x.1) (k := 2) (E := 50) (fun w => by
      show (isAgg 50).run Tryz.prog w = _
      simp [isAgg, run_underlying Tryz.underlying50]) (fun w => Go.Vc.run_sizeOf Tryz.size50 w) (fun _ => rfl) (fun x v hv => by
      simp [p2c] at hv; rcases hv with rfl | rfl <;> rfl) cfP swoP 54 (enters_of Tryz.func54 (by kernel_rfl) rfl) (fun blk off size w m os dk _ x y => cmpQ_calls x y _)
      ⟨_, Tryz.func53, by rfl, by rfl⟩ h).mono fun u V' σ' _ hh => ?_
  obtain ⟨a, b, T', c, d, e⟩ := hh
  exact ⟨a, b, T', c, asc2_of fun i j hij hj => cfP_not.1 (d i j hij hj), by rw [e, flat_p2]⟩
end Go.Proofs.YtkmhjcjpohpiaaaGreat

namespace Go.Proofs.YtkmhjcjpohpiaaaGreat
open Go Go.RowKit Go.Vc
def zp (X Y : List Int) (n : Nat) : List P2 := (List.range n).map fun i : Nat => ⟨gi X (i : Int), gi Y (i : Int)⟩
theorem snoc_cases (K : List Int) : K = [] ∨ ∃ K' v, K = K' ++ [v] := by
  rcases List.eq_nil_or_concat K with h | ⟨a, b, h⟩
  · exact .inl h
  · exact .inr ⟨a, b, by rw [h, List.concat_eq_append]⟩
theorem zp_len {X Y : List Int} {n : Nat} : (zp X Y n).length = n := by simp [zp]
theorem zp_succ {X Y : List Int} {n : Nat} : zp X Y (n + 1) = zp X Y n ++ [⟨gi X (n : Int), gi Y (n : Int)⟩] := by simp [zp, List.range_succ]
theorem zp_step {X Y : List Int} {i : Int} (h : 0 ≤ i) : zp X Y (i + 1).toNat = zp X Y i.toNat ++ [⟨gi X i, gi Y i⟩] := by
  rw [show (i + 1).toNat = i.toNat + 1 by omega, zp_succ, show ((i.toNat : Nat) : Int) = i by omega]
theorem prs_ex {P : List P2} (h : ∀ q ∈ P, inR q.a ∧ inR q.b) : ∃ T : List Pr, vals2 T = P := ⟨P.attach.map fun q => ⟨q.1, h q.1 q.2⟩, by simp [vals2]⟩
theorem zp_in {X Y : List Int} {n : Nat} (hX : ∀ z ∈ X, inR z) (hY : ∀ z ∈ Y, inR z) (hx : n ≤ X.length) (hy : n ≤ Y.length) : ∀ q ∈ zp X Y n, inR q.a ∧ inR q.b := fun q hq => by
  unfold zp at hq
  obtain ⟨i, hi, rfl⟩ := List.mem_map.1 hq
  rw [List.mem_range] at hi
  exact ⟨hX _ (gi_mem (by omega) (by omega)), hY _ (gi_mem (by omega) (by omega))⟩
theorem plt_uniq : ∀ {R S : List P2}, R.Pairwise PLt → S.Pairwise PLt → (∀ q, q ∈ R ↔ q ∈ S) → R = S
  | [], [], _, _, _ => rfl
  | [], b :: S, _, _, h => by have := (h b).2 (List.mem_cons_self ..); cases this
  | a :: R, [], _, _, h => by have := (h a).1 (List.mem_cons_self ..); cases this
  | a :: R, b :: S, h1, h2, h => by
    obtain ⟨p1, p2⟩ := List.pairwise_cons.1 h1
    obtain ⟨q1, q2⟩ := List.pairwise_cons.1 h2
    have irr : ∀ x y : P2, PLt x y → x ≠ y ∧ ¬ PLt y x := fun x y hh => ⟨fun e => by subst e; unfold PLt at hh; omega, by unfold PLt at *; omega⟩
    have e : a = b := by
      rcases List.mem_cons.1 ((h a).1 (List.mem_cons_self ..)) with e | e
      · exact e
      · rcases List.mem_cons.1 ((h b).2 (List.mem_cons_self ..)) with f | f
        · exact f.symm
        · exact absurd (p1 b f) (irr _ _ (q1 a e)).2
    subst e
    congr 1
    refine plt_uniq p2 q2 fun q => ⟨fun m => ?_, fun m => ?_⟩
    · rcases List.mem_cons.1 ((h q).1 (List.mem_cons_of_mem _ m)) with e | e
      · exact absurd e.symm (irr _ _ (p1 q m)).1
      · exact e
    · rcases List.mem_cons.1 ((h q).2 (List.mem_cons_of_mem _ m)) with e | e
      · exact absurd e.symm (irr _ _ (q1 q m)).1
      · exact e
theorem zp_tab {A B : Mg} (hA : Ok A) (hv : A.v = B.v) : zp (vT A) (vT B) (2 ^ A.v.toNat) = tabv A.v (fun e => (⟨vl A e, vl B e⟩ : P2)) := by
  have h00 := hA.1.1
  refine List.ext_getElem? fun i => ?_
  by_cases hi : i < 2 ^ A.v.toNat
  · have hi2 : ((i : Nat) : Int) < 2 ^ A.v.toNat := by exact_mod_cast hi
    have e1 : gi (vT A) i = vl A (asg A.v i) := tabv_gi h00 (by omega) hi2
    have e2 : gi (vT B) i = vl B (asg A.v i) := by
      have : vT B = tabv A.v (vl B) := by rw [hv]
      rw [this]; exact tabv_gi h00 (by omega) hi2
    have e3 := tbl_at (g := fun e => (⟨vl A e, vl B e⟩ : P2)) (vars := A.v) (k := (i : Int)) (by omega) hi2
    rw [← tab_tbl h00, Int.toNat_natCast] at e3
    rw [e3]
    unfold zp
    rw [List.getElem?_map, List.getElem?_range hi]
    show some (⟨gi (vT A) i, gi (vT B) i⟩ : P2) = _
    rw [e1, e2]
  · rw [List.getElem?_eq_none (by rw [zp_len]; omega), List.getElem?_eq_none (by rw [tabv_len]; omega)]
theorem zp_pset {A B : Mg} {S R : List P2} (hA : Ok A) (hB : Ok B) (hv : A.v = B.v) (h : PSet A B S) (h1 : R.Pairwise PLt) (h2 : ∀ z, z ∈ R ↔ z ∈ zp (vT A) (vT B) (2 ^ A.v.toNat)) : R = S := by
  refine plt_uniq h1 h.ord fun q => (h2 q).trans ?_
  rw [zp_tab hA hv, tabv_mem hA.1.1 (fun e e' he => by
    have d1 := hA.dep e e' he
    have d2 := hB.dep e e' (fun i a b => he i a (by omega))
    show (⟨vl A e, vl B e⟩ : P2) = ⟨vl A e', vl B e'⟩
    rw [d1, d2]), h.mem q]
  exact ⟨fun ⟨e, h⟩ => ⟨e, h.symm⟩, fun ⟨e, h⟩ => ⟨e, h.symm⟩⟩
def HgI (l : List Int) (k : Int) (O : List P2) : Prop :=
  ∃ K : List Int, O = K.map (fun z => (⟨z, (((l.take k.toNat).count z : Nat) : Int)⟩ : P2)) ∧ K.Pairwise (· < ·) ∧ ∀ z, z ∈ K ↔ z ∈ l.take k.toNat
theorem hgI_0 (l : List Int) : HgI l 0 [] := ⟨[], rfl, .nil, fun z => by simp⟩
theorem take_gi {l : List Int} {k : Int} (h0 : 0 ≤ k) (h1 : k < l.length) : l.take (k + 1).toNat = l.take k.toNat ++ [gi l k] := by
  rw [show (k + 1).toNat = k.toNat + 1 by omega, List.take_add_one, List.getElem?_eq_getElem (by omega)]
  show _ = _ ++ [l.getD k.toNat 0]
  rw [List.getD_eq_getElem?_getD, List.getElem?_eq_getElem (by omega)]; rfl
theorem take_le {l : List Int} {k : Int} (hs : l.Pairwise (· ≤ ·)) (h0 : 0 ≤ k) (h1 : k < l.length) : ∀ z ∈ l.take k.toNat, z ≤ gi l k := fun z hz => by
  have h2 : (l.take (k + 1).toNat).Pairwise (· ≤ ·) := hs.sublist (List.take_sublist _ _)
  rw [take_gi h0 h1] at h2
  exact (List.pairwise_append.1 h2).2.2 z hz _ (List.mem_singleton.2 rfl)
theorem hgI_same {l : List Int} {k : Int} {O : List P2} (h : HgI l k O) (hs : l.Pairwise (· ≤ ·)) (h0 : 0 ≤ k) (h1 : k < l.length) (hO : 0 < O.length) (e : (p2 O (O.length - 1)).a = gi l k) :
    HgI l (k + 1) (O.set ((O.length : Int) - 1).toNat ⟨(p2 O (O.length - 1)).a, (p2 O (O.length - 1)).b + 1⟩) := by
  obtain ⟨K, rfl, p, m⟩ := h
  rw [List.length_map] at *
  rcases snoc_cases K with rfl | ⟨K', v, rfl⟩
  · simp at hO
  · rw [List.length_append, List.length_singleton] at *
    have hl : ((K'.map (fun z => (⟨z, (((l.take k.toNat).count z : Nat) : Int)⟩ : P2))).length) = K'.length := List.length_map ..
    have hp : p2 ((K' ++ [v]).map (fun z => (⟨z, (((l.take k.toNat).count z : Nat) : Int)⟩ : P2))) (((K'.length + 1 : Nat) : Int) - 1) = ⟨v, (((l.take k.toNat).count v : Nat) : Int)⟩ := by
      unfold p2
      rw [show ((((K'.length + 1 : Nat) : Int)) - 1).toNat = K'.length by omega, List.getD_eq_getElem?_getD, List.map_append, List.getElem?_append_right (by omega), hl]
      simp
    rw [hp] at e ⊢
    have e : v = gi l k := e
    refine ⟨K' ++ [v], ?_, p, fun z => ?_⟩
    · rw [show ((((K'.length + 1 : Nat) : Int)) - 1).toNat = K'.length by omega, List.map_append, List.map_append, List.set_append_right _ _ (by omega), hl, Nat.sub_self, take_gi h0 h1]
      obtain ⟨p1, _, p3⟩ := List.pairwise_append.1 p
      congr 1
      · refine List.map_congr_left fun z hz => ?_
        have : z < v := p3 z hz v (List.mem_singleton.2 rfl)
        rw [List.count_append, List.count_eq_zero (l := [gi l k]) |>.2 (by rw [List.mem_singleton]; omega)]; rfl
      · show [(⟨v, _⟩ : P2)] = [(⟨v, _⟩ : P2)]
        rw [List.count_append, ← e]
        simp
    · rw [m z, take_gi h0 h1, List.mem_append, List.mem_singleton]
      refine ⟨fun q => .inl q, fun q => q.elim id fun q => ?_⟩
      rw [q, ← e]; exact (m v).1 (by simp)
theorem hgI_new {l : List Int} {k : Int} {O : List P2} (h : HgI l k O) (hs : l.Pairwise (· ≤ ·)) (h0 : 0 ≤ k) (h1 : k < l.length) (e : ¬ (0 < O.length ∧ (p2 O (O.length - 1)).a = gi l k)) :
    HgI l (k + 1) (O ++ [⟨gi l k, 1⟩]) := by
  obtain ⟨K, rfl, p, m⟩ := h
  have hall : ∀ z ∈ K, z < gi l k := fun z hz => by
    have hle := take_le hs h0 h1
    rcases snoc_cases K with rfl | ⟨K', v, rfl⟩
    · cases hz
    · have hl : ((K'.map (fun z => (⟨z, (((l.take k.toNat).count z : Nat) : Int)⟩ : P2))).length) = K'.length := List.length_map ..
      have hp : p2 ((K' ++ [v]).map (fun z => (⟨z, (((l.take k.toNat).count z : Nat) : Int)⟩ : P2))) (((((K' ++ [v]).map (fun z => (⟨z, (((l.take k.toNat).count z : Nat) : Int)⟩ : P2))).length : Nat) : Int) - 1) = ⟨v, (((l.take k.toNat).count v : Nat) : Int)⟩ := by
        unfold p2
        rw [show (((((K' ++ [v]).map (fun z => (⟨z, (((l.take k.toNat).count z : Nat) : Int)⟩ : P2))).length : Nat) : Int) - 1).toNat = K'.length by simp, List.getD_eq_getElem?_getD, List.map_append, List.getElem?_append_right (by omega), hl]
        simp
      have hv : v ≠ gi l k := fun q => e ⟨by simp, by rw [hp]; exact q⟩
      have hv1 : v ≤ gi l k := hle v ((m v).1 (by simp))
      obtain ⟨p1, _, p3⟩ := List.pairwise_append.1 p
      rcases List.mem_append.1 hz with q | q
      · have := p3 z q v (List.mem_singleton.2 rfl); omega
      · rw [List.mem_singleton] at q; omega
  refine ⟨K ++ [gi l k], ?_, List.pairwise_append.2 ⟨p, List.pairwise_singleton _ _, fun a ha b hb => by rw [List.mem_singleton] at hb; rw [hb]; exact hall a ha⟩, fun z => ?_⟩
  · rw [List.map_append, take_gi h0 h1]
    congr 1
    · refine List.map_congr_left fun z hz => ?_
      have := hall z hz
      rw [List.count_append, List.count_eq_zero (l := [gi l k]) |>.2 (by rw [List.mem_singleton]; omega)]; rfl
    · show [(⟨gi l k, _⟩ : P2)] = [(⟨gi l k, _⟩ : P2)]
      have : (l.take k.toNat).count (gi l k) = 0 := List.count_eq_zero.2 fun q => by
        have := hall _ ((m _).2 q); omega
      rw [List.count_append, this]
      simp
  · rw [List.mem_append, m z, take_gi h0 h1, List.mem_append]
theorem hgI_bd {l : List Int} {k : Int} {O : List P2} (h : HgI l k O) {i : Int} (h0 : 0 ≤ i) (h1 : i < O.length) : 0 ≤ (p2 O i).b ∧ (p2 O i).b ≤ l.length := by
  obtain ⟨K, rfl, _, _⟩ := h
  rw [p2_nat h0 h1, List.getElem_map]
  have := List.count_le_length (a := K[i.toNat]'(by rw [List.length_map] at h1; omega)) (l := l.take k.toNat)
  rw [List.length_take] at this
  exact ⟨Int.natCast_nonneg _, by show ((List.count _ _ : Nat) : Int) ≤ _; omega⟩
/-- The counts of a table. -/
noncomputable def hgS (t : List Int) : List P2 := (vls t).map fun z => ⟨z, ((t.count z : Nat) : Int)⟩
theorem hgI_end {t : List Int} {O : List P2} (h : HgI (srt t) (srt t).length O) : O = hgS t := by
  obtain ⟨K, rfl, p, m⟩ := h
  rw [Int.toNat_natCast, List.take_length] at *
  have hp : (srt t).Perm t := List.mergeSort_perm t _
  have : K = vls t := vls_eq p fun z => (m z).trans hp.mem_iff
  rw [this]
  unfold hgS
  exact List.map_congr_left fun z _ => by rw [hp.count_eq]
theorem hgS_T {A : Mg} (h : Ok A) : hgS (vT A) = hgL A := by
  have : A.L = vls (vT A) := (congrArg Mg.L h.dg).symm
  unfold hgS hgL; rw [← this]
end Go.Proofs.YtkmhjcjpohpiaaaGreat

namespace Go.Proofs.YtkmhjcjpohpiaaaGreat
open Go Go.RowKit Go.Vc
theorem prT_len {A B : Mg} {S : List P2} : (prT A B S).length = 2 ^ A.v.toNat := tabv_len _
theorem prT_take {A B : Mg} {S : List P2} {i : Int} (hA : Ok A) (hv : A.v = B.v) (h0 : 0 ≤ i) (h1 : i < (vT A).length) :
    (prT A B S).take (i + 1).toNat = (prT A B S).take i.toNat ++ [ixP S (gi (vT A) i) (gi (vT B) i)] := by
  have h00 := hA.1.1
  have hl : ((vT A).length : Int) = 2 ^ A.v.toNat := tabv_lenI h00
  have hl2 : ((prT A B S).length : Int) = 2 ^ A.v.toNat := tabv_lenI h00
  have e1 : gi (prT A B S) i = ixP S (vl A (asg A.v i)) (vl B (asg A.v i)) := tabv_gi (g := fun e => ixP S (vl A e) (vl B e)) h00 h0 (by omega)
  have e2 : gi (vT A) i = vl A (asg A.v i) := tabv_gi h00 h0 (by omega)
  have e3 : gi (vT B) i = vl B (asg A.v i) := by
    have : vT B = tabv A.v (vl B) := by rw [hv]
    rw [this]; exact tabv_gi h00 h0 (by omega)
  rw [take_gi h0 (by omega), e1, e2, e3]
theorem hg_bad {A : Mg} (h : ¬ Ok A) : (hgR A).length = 0 ∧ vE [A] = 1 := ⟨by unfold hgR; rw [if_neg h]; rfl, vE1_1 h⟩
theorem hg_good {A : Mg} (h : Ok A) : hgR A = hgS (vT A) ∧ vE [A] = 0 := ⟨by rw [hgS_T h]; exact if_pos h, vE1_0 h⟩
theorem pr_dg {A B : Mg} {S : List P2} (hA : Ok A) (hB : Ok B) (hv : A.v = B.v) (h12 : A.v ≤ 12) (h : PSet A B S) : vE [A, B] = 0 ∧ prD A B S = dg A.v (prT A B S) := by
  have hz := two_ok hA hB hv
  exact ⟨hz, by rw [prD_0 hz]; exact mkD_0 (prT_in hA hB hv h h12).2⟩
end Go.Proofs.YtkmhjcjpohpiaaaGreat
