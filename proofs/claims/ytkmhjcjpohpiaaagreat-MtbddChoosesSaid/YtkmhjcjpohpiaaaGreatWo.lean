/- Wo. -/
import Derived.Test.YtkmhjcjpohpiaaaGreatWb
import Derived.Test.YtkmhjcjpohpiaaaGreatWm
import Derived.Test.YtkmhjcjpohpiaaaGreatTy
import Derived.Test.YtkmhjcjpohpiaaaGreatSh
import Derived.Lib.SlicesCompact
import Derived.Walk
import Derived.Deep.QuietTactic
import Derived.BigQuiet
import Derived.Laws.CopyRow
import Derived.Test.YtkmhjcjpohpiaaaGreatWd
import Derived.Test.YtkmhjcjpohpiaaaGreatWn
namespace Go.Proofs.YtkmhjcjpohpiaaaGreat
open Go Go.Vc Go.Sort Go.RowKit
theorem put_heap {w : World} {g n : Nat} {zs : List Int} {E : TypeId} {cur : Array Value} (hb : w.heap[g]? = some (.cells cur E (0, 0))) :
    putRow (Value.int .i64) (Sort.ahead w n) g 0 zs.toArray = { ({ w with drawn := w.drawn + n } : World) with heap := w.heap.setIfInBounds g (.cells (putCells (Value.int .i64) 0 zs.toArray cur) E (0, 0)) } := by
  have hlt : g < w.heap.size := hv_lt (w := w) hb
  have hg : w.heap[g] = .cells cur E (0, 0) := by rw [Array.getElem?_eq_getElem hlt] at hb; exact Option.some.inj hb
  unfold putRow mapBlock Sort.ahead
  congr 1
  apply Array.ext
  · simp
  · intro i h1 h2
    simp only [Array.getElem_modify]
    by_cases hi : g = i
    · subst hi; simp [hg, onCells]
    · rw [if_neg hi, Array.getElem_setIfInBounds_ne _ hi]
theorem putCells_take {zs : List Int} {cur : Array Value} {n : Nat} (hn : zs.length = n) (hc : n ≤ cur.size) : (putCells (Value.int .i64) 0 zs.toArray cur).toList.take n = zs.map (Value.int .i64) := by
  apply List.ext_getElem
  · simp [putCells]; omega
  · intro i h1 h2
    simp at h1 h2
    have hi : i < zs.length := by omega
    simp [putCells, List.getElem_take, hi]
theorem Sort_c {V : HV} {v : Value} {zs : List Int} (hsz : zs.length < 4611686018427387904) :
    FnC Tryz.prog 45 [v] V [Gr 3 1 v zs.length (zs.map (Value.int .i64))] (fun u V' σ' => u = .tuple #[] ∧ V' = V ∧ σ' = [Gr 3 1 v zs.length ((zs.mergeSort fun x y => decide (x ≤ y)).map (Value.int .i64))]) := by
  refine ⟨⟨_, Tryz.func45, by rfl, by rfl⟩, fun w0 hs0 h1 h2 h3 h4 => ?_⟩
  have m0 := mem_start h1 h2 h3 h4
  obtain ⟨h, hh⟩ : ∃ h, hs0 = [h] := by
    match hs0, h1 with
    | [h], _ => exact ⟨h, rfl⟩
  subst hh
  have hg : Gr 3 1 v zs.length (zs.map (Value.int .i64)) h := h1.1
  obtain ⟨hl, hg⟩ := hg
  rcases hg with ⟨rfl, hn, _⟩ | ⟨g, cap, cur, rfl, rfl, q1, q2, q3, q4⟩
  · have hz : zs = [] := List.eq_nil_of_length_eq_zero hn
    subst hz
    refine (Tryz.slices_Sort_int_none none 0 w0).mono fun e w' ⟨he, hw⟩ => ?_
    subst hw
    exact ⟨_, V, _, he, ⟨rfl, rfl, rfl⟩, by simpa using m0⟩
  · have hb : w0.heap[g]? = some (.cells cur 3 (0, 0)) := (h4 (Vc.one g (.cells cur 3 (0, 0))) (List.mem_singleton.2 rfl)).1 g _ (by show (if g = g then some _ else none) = _; rw [if_pos rfl])
    have hH : Holds (Value.int .i64) w0 g 0 zs.toArray := fun j hj => by
      have hj' : j < zs.length := by simpa using hj
      have e : cur[j]? = some (.int .i64 zs[j]) := by
        have := congrArg (fun l => l[j]?) q4
        simp only [List.getElem?_take, List.getElem?_map] at this
        rw [if_pos (by omega)] at this
        simpa [List.getElem?_eq_getElem hj'] using this
      refine ⟨?_, by simp [World.frozen?, hb]⟩
      simp [World.cell?, hb, e, hj']
    refine (Tryz.slices_Sort_int g 0 cap zs w0 hH (hv_lt (w := w0) hb) hsz).mono fun e w' ⟨he, n, os, hw⟩ => ?_
    have hlen : (zs.mergeSort fun x y => decide (x ≤ y)).length = zs.length := List.length_mergeSort _
    rw [put_heap hb] at hw
    have m1 : Mem ⟨w0, V, dom [Vc.one g (.cells cur 3 (0, 0))]⟩ V [Blk g (.cells cur 3 (0, 0))] w0 :=
      mem_start (σ0 := [Blk g (.cells cur 3 (0, 0))]) ⟨rfl, trivial⟩ h2 h3 h4
    have m2 := (m1.drawn (w0.drawn + n)).setBlk (k := 0) rfl (.cells (putCells (Value.int .i64) 0 (zs.mergeSort fun x y => decide (x ≤ y)).toArray cur) 3 (0, 0)) _ rfl
    have hext : ∀ (w : World), Ext w (grow w os) := fun w => ⟨rfl, rfl, rfl, by simp [grow], fun k hk => by simp [grow, Array.getElem?_append, hk]⟩
    have m3 := m2.ext (hext _)
    rw [hw]
    refine ⟨_, V, _, he, ⟨rfl, rfl, rfl⟩, ?_⟩
    obtain ⟨hs, s1, s2, s3⟩ := m3.own
    refine ⟨m3.os, m3.tape, m3.output, m3.size, m3.frame, m3.sub, m3.view, m3.vold, hs, ?_, s2, s3⟩
    match hs, s1 with
    | [x], s1 =>
      refine ⟨⟨by simp [hlen], .inr ⟨g, cap, _, rfl, s1.1, q1, q2, by simp [putCells]; omega, ?_⟩⟩, trivial⟩
      rw [Nat.mul_one]
      exact putCells_take hlen (by omega)
theorem putCells_take2 {zs : List Int} {cur : Array Value} {n : Nat} (hn : n ≤ zs.length) (hc : zs.length ≤ cur.size) : (putCells (Value.int .i64) 0 zs.toArray cur).toList.take n = (zs.take n).map (Value.int .i64) := by
  have h := putCells_take (zs := zs) (cur := cur) rfl hc
  have h2 := congrArg (List.take n) h
  rw [List.take_take, Nat.min_eq_left hn, ← List.map_take] at h2
  exact h2
theorem Compact_c {V : HV} {v : Value} {zs : List Int} (hsz : zs.length ≤ 9223372036854775807) :
    FnC Tryz.prog 56 [v] V [Gr 3 1 v zs.length (zs.map (Value.int .i64))] (fun u V' σ' => V' = V ∧ σ' = [Gr 3 1 u (Lib.compact zs).length ((Lib.compact zs).map (Value.int .i64))]) := by
  refine ⟨⟨_, Tryz.func56, by rfl, by rfl⟩, fun w0 hs0 h1 h2 h3 h4 => ?_⟩
  have m0 := mem_start h1 h2 h3 h4
  obtain ⟨h, hh⟩ : ∃ h, hs0 = [h] := by
    match hs0, h1 with
    | [h], _ => exact ⟨h, rfl⟩
  subst hh
  have hg : Gr 3 1 v zs.length (zs.map (Value.int .i64)) h := h1.1
  by_cases hz : zs = []
  · subst hz
    obtain ⟨a, c, e, _⟩ := hg.shape
    subst e
    refine (Tryz.slices_Compact_int_empty a c w0).mono fun e w' ⟨he, hw⟩ => ?_
    subst hw
    exact ⟨_, V, _, he, ⟨rfl, rfl⟩, by simpa [Lib.compact, Lib.compactUpTo] using m0⟩
  obtain ⟨hl, hg⟩ := hg
  rcases hg with ⟨rfl, hn, _⟩ | ⟨g, cap, cur, rfl, rfl, q1, q2, q3, q4⟩
  · exact absurd (List.eq_nil_of_length_eq_zero hn) hz
  · have hb : w0.heap[g]? = some (.cells cur 3 (0, 0)) := (h4 (Vc.one g (.cells cur 3 (0, 0))) (List.mem_singleton.2 rfl)).1 g _ (by show (if g = g then some _ else none) = _; rw [if_pos rfl])
    have hH : Holds (Value.int .i64) w0 g 0 zs.toArray := fun j hj => by
      have hj' : j < zs.length := by simpa using hj
      have e : cur[j]? = some (.int .i64 zs[j]) := by
        have := congrArg (fun l => l[j]?) q4
        simp only [List.getElem?_take, List.getElem?_map] at this
        rw [if_pos (by omega)] at this
        simpa [List.getElem?_eq_getElem hj'] using this
      refine ⟨?_, by simp [World.frozen?, hb]⟩
      simp [World.cell?, hb, e, hj']
    refine (Tryz.slices_Compact_int g 0 cap zs w0 hH hsz q1).mono fun e w' ⟨he, n, hw⟩ => ?_
    have hcl : (Lib.compact zs).length ≤ zs.length := by
      have : (Lib.compact zs).length ≤ ((List.range zs.length)).length := by
        unfold Lib.compact Lib.compactUpTo
        rw [List.length_map]
        exact List.length_filter_le ..
      simpa using this
    have hlen : (Lib.compact zs ++ List.replicate (zs.length - (Lib.compact zs).length) 0).length = zs.length := by rw [List.length_append, List.length_replicate]; omega
    rw [put_heap hb] at hw
    have m1 : Mem ⟨w0, V, dom [Vc.one g (.cells cur 3 (0, 0))]⟩ V [Blk g (.cells cur 3 (0, 0))] w0 :=
      mem_start (σ0 := [Blk g (.cells cur 3 (0, 0))]) ⟨rfl, trivial⟩ h2 h3 h4
    have m3 := (m1.drawn (w0.drawn + n)).setBlk (k := 0) rfl (.cells (putCells (Value.int .i64) 0 (Lib.compact zs ++ List.replicate (zs.length - (Lib.compact zs).length) 0).toArray cur) 3 (0, 0)) _ rfl
    rw [hw]
    refine ⟨_, V, _, he, ⟨rfl, rfl⟩, ?_⟩
    obtain ⟨hs, s1, s2, s3⟩ := m3.own
    refine ⟨m3.os, m3.tape, m3.output, m3.size, m3.frame, m3.sub, m3.view, m3.vold, hs, ?_, s2, s3⟩
    match hs, s1 with
    | [x], s1 =>
      refine ⟨⟨by simp, .inr ⟨g, cap, _, rfl, s1.1, by omega, q2, by simp [putCells]; omega, ?_⟩⟩, trivial⟩
      rw [Nat.mul_one, putCells_take2 (by omega) (by omega), List.take_left' rfl]
theorem cmp_run {W : World} {pb bb c off n cap : Nat} {i j x y : Int} (h1 : ∀ q, (W.drewN q).cell? ⟨pb,0,none⟩ = some (.pointer (some ⟨bb,0,none⟩))) (h2 : ∀ q, (W.drewN q).cell? ⟨bb,0,none⟩ = some (.slice (some ⟨c, off, none⟩) n cap))
   (h3 : ∀ q, (W.drewN q).cell? ⟨c, off+i.toNat, none⟩ = some (.int .i64 x)) (h4 : ∀ q, (W.drewN q).cell? ⟨c, off+j.toNat, none⟩ = some (.int .i64 y)) (hi : 0 ≤ i) (hi2 : i < n) (hj : 0 ≤ j) (hj2 : j < n) (hw : IntKind.i64.wrap (x - y) = x - y) : Calls Tryz.prog 120 #[.int .i64 i, .int .i64 j, .pointer (some ⟨pb,0,none⟩)] W fun e w' => e = .returned (.int .i64 (x - y)) ∧ ∃ q, w' = W.drewN q := by
  go_enter Tryz.func120, Tryz.ntmps120
  go_wp2
  go_quiet (fail)
  go_wp2
  go_ret
  exact ⟨rfl, nq, rfl⟩
theorem sw_heap {α : Type} [Inhabited α] {enc : α → Value} {w : World} {g off m b : Nat} {dk : Array α} {os : Array Obj} (hb : b ≠ g) (hlt : b < w.heap.size) : (sortWorld enc w g off m dk os).heap[b]? = w.heap[b]? := by
  unfold sortWorld grow putRow mapBlock Sort.ahead
  have hs : b < (w.heap.modify g (onCells (putCells enc off dk))).size := by simpa using hlt
  show ((w.heap.modify g (onCells (putCells enc off dk))) ++ os)[b]? = _
  rw [Array.getElem?_append_left hs, Array.getElem?_eq_getElem hs, Array.getElem?_eq_getElem hlt, Array.getElem_modify, if_neg fun e => hb e.symm]
abbrev LfI (L : List Int) := { i : Int // 0 ≤ i ∧ i < L.length }
def enI {L : List Int} (x : LfI L) : Value := .int .i64 x.val
def cfI (L : List Int) (x y : LfI L) : Int := gi L x.val - gi L y.val
theorem swoI (L : List Int) : SWO (ltOf (cfI L)) where
  irrefl := fun x => by simp [ltOf, cfI]
  trans := fun x y z h1 h2 => by unfold ltOf cfI at *; have h1 := of_decide_eq_true h1; have h2 := of_decide_eq_true h2; exact decide_eq_true (by omega)
  ntrans := fun x y z h1 h2 => by unfold ltOf cfI at *; have h1 := of_decide_eq_false h1; have h2 := of_decide_eq_false h2; exact decide_eq_false (by omega)
theorem put_mapI {L : List Int} (zs : List (LfI L)) (c : Array Value) [Inhabited (LfI L)] : putCells enI 0 zs.toArray c = putCells (Value.int .i64) 0 (zs.map (·.val)).toArray c := by
  unfold putCells
  apply Array.ext
  · simp
  · intro k h1 h2
    simp only [Array.getElem_mapIdx, List.size_toArray, List.length_map]
    split
    · rename_i h
      have hk : k < zs.length := by simpa using h.2
      simp [enI, hk]
    · rfl
theorem putRow_mapI {L : List Int} [Inhabited (LfI L)] (zs : List (LfI L)) (w : World) (g : Nat) : putRow enI w g 0 zs.toArray = putRow (Value.int .i64) w g 0 (zs.map (·.val)).toArray := by
  unfold putRow
  congr 1
  funext c
  exact put_mapI zs c
theorem SortL_c {V : HV} {v u : Value} {zs L : List Int} {pb bb : Nat} {cs : List Value} (hp : Cells V pb [.pointer (some ⟨bb, 0, none⟩)]) (hbb : Cells V bb (u :: cs)) (hL : Ints .i64 V u L) (hz : ∀ z ∈ zs, 0 ≤ z ∧ z < L.length)
    (hin : ∀ z ∈ L, inR z) (hnod : ∀ i j : Int, 0 ≤ i → i < L.length → 0 ≤ j → j < L.length → gi L i = gi L j → i = j) (hsz : zs.length < 4611686018427387904) :
    FnC Tryz.prog 119 [v, .func (.func 120) #[] #[.pointer (some ⟨pb, 0, none⟩)]] V [Gr 3 1 v zs.length (zs.map (Value.int .i64))] (fun u V' σ' => u = .tuple #[] ∧ V' = V ∧ σ' = [Gr 3 1 v zs.length ((lvS L zs).map (Value.int .i64))]) := by
  refine ⟨⟨_, Tryz.func119, by rfl, by rfl⟩, fun w0 hs0 h1 h2 h3 h4 => ?_⟩
  have m0 := mem_start h1 h2 h3 h4
  obtain ⟨h, hh⟩ : ∃ h, hs0 = [h] := by
    match hs0, h1 with
    | [h], _ => exact ⟨h, rfl⟩
  subst hh
  have hg : Gr 3 1 v zs.length (zs.map (Value.int .i64)) h := h1.1
  obtain ⟨hl, hg⟩ := hg
  rcases hg with ⟨rfl, hn, _⟩ | ⟨g, cap, cur, rfl, rfl, q1, q2, q3, q4⟩
  · have hz : zs = [] := List.eq_nil_of_length_eq_zero hn
    subst hz
    refine (Tryz.slices_SortFunc_none (α := Int) none 0 _ w0).mono fun e w' ⟨he, hw⟩ => ?_
    subst hw
    exact ⟨_, V, _, he, ⟨rfl, rfl, rfl⟩, by simpa [lvS] using m0⟩
  by_cases hz0 : zs = []
  · subst hz0
    refine (Tryz.slices_SortFunc_none (α := Int) _ _ _ w0).mono fun e w' ⟨he, hw⟩ => ?_
    subst hw
    exact ⟨_, V, _, he, ⟨rfl, rfl, rfl⟩, by simpa [lvS] using m0⟩
  obtain ⟨z0, hz0⟩ := List.exists_mem_of_ne_nil _ hz0
  letI : Inhabited (LfI L) := ⟨⟨z0, hz z0 hz0⟩⟩
  let ds : List (LfI L) := zs.pmap (fun x h => (⟨x, h⟩ : LfI L)) hz
  have hds : ds.map (·.val) = zs := by simp [ds, List.map_pmap]
  have hdl : ds.length = zs.length := by simp [ds]
  have hdz : (ds.mergeSort fun x y => !(ltOf (cfI L)) y x).map (·.val) = lvS L zs := by
    unfold lvS
    rw [List.map_mergeSort (r := fun x y => !(ltOf (cfI L)) y x) (s := fun i j : Int => decide (gi L i ≤ gi L j)) (f := fun x : LfI L => x.val) (fun a _ b _ => by
      unfold ltOf cfI
      by_cases h : gi L a.val ≤ gi L b.val
      · rw [decide_eq_true h, decide_eq_false (by omega)]; rfl
      · rw [decide_eq_false h, decide_eq_true (by omega)]; rfl), hds]
  have hb : w0.heap[g]? = some (.cells cur 3 (0, 0)) := (h4 (Vc.one g (.cells cur 3 (0, 0))) (List.mem_singleton.2 rfl)).1 g _ (by show (if g = g then some _ else none) = _; rw [if_pos rfl])
  have hgV : V g = none := by
    rcases (h4 (Vc.one g (.cells cur 3 (0, 0))) (List.mem_singleton.2 rfl)).2 g with q | q
    · simp [Vc.one] at q
    · exact q
  have hH : Holds enI w0 g 0 ds.toArray := fun j hj => by
    have hj1 : j < ds.length := by simpa using hj
    have hj' : j < zs.length := by omega
    have e0 : (ds.toArray[j]!).val = zs[j] := by
      have := congrArg (fun l => l[j]?) hds
      simp only [List.getElem?_map, List.getElem?_eq_getElem hj', List.getElem?_eq_getElem hj1, Option.map_some, Option.some.injEq] at this
      simpa [hj1] using this
    have e : cur[j]? = some (.int .i64 zs[j]) := by
      have := congrArg (fun l => l[j]?) q4
      simp only [List.getElem?_take, List.getElem?_map] at this
      rw [if_pos (by omega)] at this
      simpa [List.getElem?_eq_getElem hj'] using this
    refine ⟨?_, by simp [World.frozen?, hb]⟩
    unfold enI
    rw [e0]
    simp [World.cell?, hb, e]
  -- what the comparison reads
  have hread : ∀ (b : Nat) (o : Obj), V b = some o → ∀ m os (dk : Array (LfI L)), (sortWorld enI w0 g 0 m dk os).heap[b]? = some o := fun b o hbo m os dk => by
    have hlt : b < w0.heap.size := hv_lt (w := w0) (h3 b o hbo)
    have := sw_heap (enc := enI) (w := w0) (g := g) (off := 0) (m := m) (dk := dk) (os := os) (b := b) (fun e => by rw [e, hgV] at hbo; cases hbo) hlt
    rw [this]; exact h3 b o hbo
  obtain ⟨a, c, rfl, hc1, hc2, hsl⟩ := hL
  have hLn : L.map (Value.int .i64) ≠ [] := fun e => by
    have := (hz z0 hz0)
    have e2 : L = [] := by simpa using e
    rw [e2] at this
    have e3 : ((([] : List Int).length : Nat) : Int) = 0 := rfl
    omega
  obtain ⟨lb, off, lc, T, fz, rfl, hlb, hle⟩ := hsl hLn
  obtain ⟨Tp, fp, hp⟩ := hp
  obtain ⟨Tb, fb, hbb⟩ := hbb
  have hcmp : CmpLays1 Tryz.prog 120 #[.pointer (some ⟨pb, 0, none⟩)] enI (cfI L) g 0 ds.toArray.size w0 := CmpReads.lays fun m os dk _ x y => by
    have hel : ∀ z : LfI L, ∀ q, ((sortWorld enI w0 g 0 m dk os).drewN q).cell? ⟨lb, off + z.val.toNat, none⟩ = some (.int .i64 (gi L z.val)) := fun z q => by
      have hzl : z.val.toNat < L.length := by have := z.2; omega
      have := hle z.val.toNat (by simpa using hzl)
      rw [List.getElem?_map, List.getElem?_eq_getElem hzl] at this
      simp only [Option.map_some] at this
      simp [World.cell?, hread lb _ hlb m os dk, this, List.getElem?_eq_getElem hzl]
    have hr : ∀ z : LfI L, inR (gi L z.val) := fun z => hin _ (gi_mem z.2.1 z.2.2)
    have r1 := hr x
    have r2 := hr y
    unfold inR at r1 r2
    exact cmp_run (i := x.val) (j := y.val) (x := gi L x.val) (y := gi L y.val) (n := L.length) (bb := bb) (c := lb) (off := off) (cap := c) (fun q => by simp [World.cell?, hread pb _ hp m os dk]) (fun q => by simp [World.cell?, hread bb _ hbb m os dk]) (hel x) (hel y) x.2.1 x.2.2 y.2.1 y.2.2 (IntWalk.i64_in _ (by omega))
  have eg : ∀ args w, (callFunc 120 args).run Tryz.prog w = .ok (.enter 120 args) w := enters_of Tryz.func120 (by kernel_rfl) rfl
  have call := Tryz.slices_SortFunc_total enI (fun _ => rfl) (cfI L) (swoI L) 120 #[.pointer (some ⟨pb, 0, none⟩)] g 0 cap ds.toArray w0 eg hcmp hH (hv_lt (w := w0) hb) (by simpa [hdl] using hsz) (fun x y a b => by
    unfold ltOf cfI at a b
    have a := of_decide_eq_false a
    have b := of_decide_eq_false b
    exact Subtype.ext (hnod _ _ x.2.1 x.2.2 y.2.1 y.2.2 (by omega)))
  rw [show ds.toArray.size = zs.length by simpa using hdl] at call
  refine call.mono fun e w' ⟨he, n, os, hw⟩ => ?_
  have hlen : (lvS L zs).length = zs.length := lvS_len L zs
  unfold sortWorld at hw
  rw [putRow_mapI, hdz, put_heap hb] at hw
  have m1 : Mem ⟨w0, V, dom [Vc.one g (.cells cur 3 (0, 0))]⟩ V [Blk g (.cells cur 3 (0, 0))] w0 :=
    mem_start (σ0 := [Blk g (.cells cur 3 (0, 0))]) ⟨rfl, trivial⟩ h2 h3 h4
  have m2 := (m1.drawn (w0.drawn + n)).setBlk (k := 0) rfl (.cells (putCells (Value.int .i64) 0 (lvS L zs).toArray cur) 3 (0, 0)) _ rfl
  have hext : ∀ (w : World), Ext w (grow w os) := fun w => ⟨rfl, rfl, rfl, by simp [grow], fun k hk => by simp [grow, Array.getElem?_append, hk]⟩
  have m3 := m2.ext (hext _)
  rw [hw]
  refine ⟨_, V, _, he, ⟨rfl, rfl, rfl⟩, ?_⟩
  obtain ⟨hs, s1, s2, s3⟩ := m3.own
  refine ⟨m3.os, m3.tape, m3.output, m3.size, m3.frame, m3.sub, m3.view, m3.vold, hs, ?_, s2, s3⟩
  match hs, s1 with
  | [x], s1 =>
    refine ⟨⟨by simp [hlen], .inr ⟨g, cap, _, rfl, s1.1, q1, q2, by simp [putCells]; omega, ?_⟩⟩, trivial⟩
    rw [Nat.mul_one]
    exact putCells_take hlen (by omega)
end Go.Proofs.YtkmhjcjpohpiaaaGreat

namespace Go.Vc
open Go.RowKit
def joinL : List HV → HV
  | [] => fun _ => none
  | h :: hs => plus h (joinL hs)
/-- Pieces as one piece. -/
def Pk (σ : Res) : Asrt := fun h => ∃ hs, Sat σ hs ∧ hs.Pairwise Disj ∧ h = joinL hs
/-- A piece of one of several forms. -/
def ExA {α : Type} (A : α → Asrt) : Asrt := fun h => ∃ a, A a h
theorem plus_none {g h : HV} {b : Nat} : plus g h b = none ↔ g b = none ∧ h b = none := by
  unfold plus
  cases g b with
  | some o => simp
  | none => simp
theorem joinL_none {b : Nat} : ∀ {hs : List HV}, joinL hs b = none ↔ ∀ h ∈ hs, h b = none
  | [] => by simp [joinL]
  | h :: hs => by
    show plus h (joinL hs) b = none ↔ _
    rw [plus_none, joinL_none (hs := hs)]; simp
theorem disj_joinL {k : HV} {hs : List HV} (h : ∀ x ∈ hs, Disj x k) : Disj (joinL hs) k := fun b => by
  by_cases q : k b = none
  · exact .inr q
  · exact .inl (joinL_none.2 fun x hx => (h x hx b).resolve_right q)
theorem sub_joinL : ∀ {hs : List HV}, hs.Pairwise Disj → ∀ h ∈ hs, Sub h (joinL hs)
  | [], _, _, hm => by cases hm
  | x :: hs, hp, h, hm => by
    have hp := List.pairwise_cons.1 hp
    rcases List.mem_cons.1 hm with e | e
    · rw [e]; exact sub_plus_left _ _
    · have hd : Disj x (joinL hs) := (disj_joinL fun y hy => (hp.1 y hy).symm).symm
      exact (sub_joinL hp.2 h e).trans (sub_plus_right hd)
theorem joinL_sub {k : HV} : ∀ {hs : List HV}, (∀ h ∈ hs, Sub h k) → Sub (joinL hs) k
  | [], _ => fun b o h => by cases h
  | x :: hs, h => sub_plus (h x (List.mem_cons_self ..)) (joinL_sub fun y hy => h y (List.mem_cons_of_mem _ hy))
theorem Mem.unpack {C : Cx} {V : HV} {σ τ : Res} {w : World} (m : Mem C V (Pk σ :: τ) w) : Mem C V (σ ++ τ) w := by
  obtain ⟨hs, h1, h2, h3⟩ := m.own
  match hs, h1, h2, h3 with
  | x :: ht, h1, h2, h3 =>
    obtain ⟨ks, k1, k2, rfl⟩ := h1.1
    have h2 := List.pairwise_cons.1 h2
    have hx := h3 _ (List.mem_cons_self ..)
    refine ⟨m.os, m.tape, m.output, m.size, m.frame, m.sub, m.view, m.vold, ks ++ ht, k1.append h1.2, ?_, ?_⟩
    · rw [List.pairwise_append]
      exact ⟨k2, h2.2, fun a ha b hb c => (h2.1 b hb c).imp (fun q => joinL_none.1 q a ha) id⟩
    · intro h hh
      rcases List.mem_append.1 hh with q | q
      · have s := sub_joinL k2 h q
        refine ⟨s.trans hx.1, fun b => (hx.2.1 b).imp (fun z => joinL_none.1 z h q) id, fun b hb hne => hx.2.2 b hb fun z => hne (joinL_none.1 z h q)⟩
      · exact h3 h (List.mem_cons_of_mem _ q)
theorem Mem.pack {C : Cx} {V : HV} {σ τ : Res} {w : World} (m : Mem C V (σ ++ τ) w) : Mem C V (Pk σ :: τ) w := by
  obtain ⟨hs, h1, h2, h3⟩ := m.own
  obtain ⟨ks, ht, rfl, k1, k2⟩ := h1.split
  have h2 := List.pairwise_append.1 h2
  refine ⟨m.os, m.tape, m.output, m.size, m.frame, m.sub, m.view, m.vold, joinL ks :: ht, ⟨⟨ks, k1, h2.1, rfl⟩, k2⟩, List.pairwise_cons.2 ⟨fun y hy => disj_joinL fun x hx => h2.2.2 x hx y hy, h2.2.1⟩, ?_⟩
  intro h hh
  rcases List.mem_cons.1 hh with q | q
  · rw [q]
    refine ⟨joinL_sub fun x hx => (h3 x (List.mem_append_left _ hx)).1, disj_joinL fun x hx => (h3 x (List.mem_append_left _ hx)).2.1, fun b hb hne => ?_⟩
    apply Classical.byContradiction
    intro z
    exact hne (joinL_none.2 fun x hx => Classical.byContradiction fun y => z ((h3 x (List.mem_append_left _ hx)).2.2 b hb y))
  · exact h3 h (List.mem_append_right _ q)
theorem Mem.ex {α : Type} {A : α → Asrt} {C : Cx} {V : HV} {τ : Res} {w : World} (m : Mem C V (ExA A :: τ) w) : ∃ a, Mem C V (A a :: τ) w := by
  obtain ⟨hs, h1, h2, h3⟩ := m.own
  match hs, h1, h2, h3 with
  | x :: ht, h1, h2, h3 =>
    obtain ⟨a, ha⟩ := h1.1
    exact ⟨a, m.os, m.tape, m.output, m.size, m.frame, m.sub, m.view, m.vold, x :: ht, ⟨ha, h1.2⟩, h2, h3⟩
section
variable {P : Program} {C : Cx} {N : Nat} {K : K3} {Q : Ex → K3} {env : Env} {V : HV} {τ τ' : Res} {c : Code} {α : Type}
end
theorem dom_one (hs : List HV) : dom [joinL hs] = dom hs := by
  funext b
  apply propext
  constructor
  · rintro ⟨h, hm, hne⟩
    rw [List.mem_singleton.1 hm] at hne
    exact Classical.byContradiction fun z => hne (joinL_none.2 fun x hx => Classical.byContradiction fun y => z ⟨x, hx, y⟩)
  · rintro ⟨h, hm, hne⟩
    exact ⟨_, List.mem_singleton.2 rfl, fun z => hne (joinL_none.1 z h hm)⟩
section
variable {P : Program} {f : FuncId} {args : List Value} {V : HV}
theorem pk_nil_dom (ks : List HV) : dom (ks ++ [joinL []]) = dom ks := by
  funext b
  apply propext
  constructor
  · rintro ⟨h, hm, hne⟩
    rcases List.mem_append.1 hm with q | q
    · exact ⟨h, q, hne⟩
    · rw [List.mem_singleton.1 q] at hne; exact absurd rfl hne
  · rintro ⟨h, hm, hne⟩
    exact ⟨h, List.mem_append_left _ hm, hne⟩
/-- A state of nothing. -/
theorem FnC.pk_in {Φ : Value → HV → Res → Prop} (h : FnC P f args V [] Φ) : FnC P f args V [Pk []] (fun v V' σ' => σ' = [Pk []] ∧ ∃ σ1, Φ v V' σ1) := by
  refine ⟨h.ok, fun w0 hs0 h1 h2 h3 h4 => ?_⟩
  match hs0, h1, h2, h4 with
  | [x], h1, h2, h4 =>
    obtain ⟨ks, k1, k2, rfl⟩ := h1.1
    match ks, k1 with
    | [], _ =>
    refine (h.run w0 [] trivial .nil h3 fun y hy => by cases hy).mono ?_
    rintro e w' ⟨v, V', σ', he, hφ, hm⟩
    refine ⟨v, V', _, he, ⟨rfl, σ', hφ⟩, ?_⟩
    rw [dom_one]
    exact Mem.pack (σ := []) (τ := []) (hm.drop (σq := []) (.refl _))
theorem FnC.pk_out {σ : Res} {Φ : Value → HV → Res → Prop} (h : FnC P f args V (σ ++ [Pk []]) (fun v V' σ' => ∃ σ1, σ' = σ1 ++ [Pk []] ∧ Φ v V' σ1)) : FnC P f args V σ Φ := by
  refine ⟨h.ok, fun w0 hs0 h1 h2 h3 h4 => ?_⟩
  refine (h.run w0 (hs0 ++ [joinL []]) (h1.append ⟨⟨[], trivial, .nil, rfl⟩, trivial⟩) (List.pairwise_append.2 ⟨h2, by simp, fun a _ b hb c => .inr (by rw [List.mem_singleton.1 hb]; rfl)⟩) h3 fun y hy => ?_).mono ?_
  · rcases List.mem_append.1 hy with q | q
    · exact h4 y q
    · rw [List.mem_singleton.1 q]; exact ⟨fun b o z => (by cases z), fun b => Or.inl rfl⟩
  · rintro e w' ⟨v, V', σ', he, ⟨σ1, rfl, hφ⟩, hm⟩
    rw [pk_nil_dom] at hm
    have hm := (hm.perm (List.perm_append_comm (l₁ := σ1))).unpack
    exact ⟨v, V', σ1, he, hφ, hm⟩
end
end Go.Vc

namespace Go.Vc
open Go Go.RowKit
section
variable {P : Program} {C : Cx} {N : Nat} {K : K3} {Q : Ex → K3} {env : Env} {V : HV} {σ : Res} {ops : Array Oper} {rest : List Oper} {w : World}
variable {d k b s : Nat} {dst : Option Nat} {x y z : Operand} {t T T' T2 E : TypeId} {pos : String} {af : Array Edge} {g : Option (Nat × Bool)} {v : Value} {c : Code}

theorem Mem.of_gr {n : Nat} {xs : List Value} (hm : Mem C V σ w) (hn : 0 < n) (hk : σ[k]? = some (Gr E s v n xs)) :
    ∃ b cap cs, v = .slice (some ⟨b, 0, none⟩) n cap ∧ n ≤ cap ∧ cap ≤ maxLen ∧ cs.length = cap * s ∧ cs.take (n * s) = xs ∧ Mem C V (σ.set k (Arr E b cs)) w := by
  obtain ⟨hs, s1, s2, s3⟩ := hm.own
  obtain ⟨hh, e, hl, hg⟩ := s1.get hk
  rcases hg with ⟨_, hn', _⟩ | ⟨b, cap, cur, e1, e2, q1, q2, q3, q4⟩
  · omega
  · have hb : w.heap[b]? = some (.cells cur E (0, 0)) := (s3 _ (List.mem_of_getElem? e)).1 b _ (by rw [e2]; simp [one])
    refine ⟨b, cap, cur.toList, e1, q1, q2, by simpa using q3, q4, hm.upd hk fun h hA hs hd => ?_⟩
    rcases hA.2 with ⟨f1, _⟩ | ⟨b', cap', cur', f1, f2, _⟩
    · rw [e1] at f1; cases f1
    · rw [e1] at f1
      simp only [Value.slice.injEq, Option.some.injEq, Addr.mk.injEq, and_true, true_and] at f1
      obtain ⟨rfl, rfl⟩ := f1
      have hb2 : w.heap[b]? = some (.cells cur' E (0, 0)) := hs b _ (by rw [f2]; simp [one])
      rw [hb] at hb2
      have hcc : cur = cur' := by injection hb2 with q; injection q
      subst hcc
      have hA2 : Arr E b cur.toList h := by show h = one b _; rw [f2]
      exact Mem.single rfl rfl rfl (Nat.le_refl _) (fun _ _ _ => rfl) hm.view hd hs hA2 (fun _ _ q => q)
theorem vc_grshape {n : Nat} {xs : List Value} (hn : 0 < n) (hk : σ[k]? = some (Gr E s v n xs)) (h : (∃ b c, v = .slice (some ⟨b, 0, none⟩) n c) → VC P C N c K Q env V σ) : VC P C N c K Q env V σ := fun a w hf hm => by
  obtain ⟨b, cap, cs, h1, _⟩ := hm.of_gr hn hk
  exact h ⟨b, cap, h1⟩ a w hf hm
theorem qv_iash {n : Nat} {i : Int} {kk : IntKind} (hT : P.underlying T = some (.slice E)) (hS : SizeIs P E s) (hx : ev env x = v) (hv : ∃ b c, v = .slice (some ⟨b, 0, none⟩) n c) (hy : ev env y = .int kk i) (h0 : 0 ≤ i) (h1 : i < n) : QV P C ⟨dst, .indexAddr T x y, t, pos, af, g⟩ env V σ (eptr v i s) := qv_run fun w hm => by
  obtain ⟨b, c, rfl⟩ := hv
  simp only [execOp, hx, hy, Instr.indexAt, asIntOf, underlying, eptr]
  simp [hT, run_sizeOf hS, h0, h1]
theorem vc_to_gr {b n cap : Nat} {cs : List Value} (s : Nat) (xs : List Value) (hk : σ[k]? = some (Arr E b cs)) (hx : xs.length = n * s) (hn : n ≤ cap) (hm' : cap ≤ maxLen) (hc : cs.length = cap * s)
    (ht : cs.take (n * s) = xs) (h : VC P C N c K Q env V (σ.set k (Gr E s (.slice (some ⟨b, 0, none⟩) n cap) n xs))) : VC P C N c K Q env V σ := fun a w hf hm =>
  h a w hf (hm.to_gr (cs := cs.toArray) hk hx hn hm' (by simpa using hc) (by simpa using ht))
end
end Go.Vc

namespace Go.Proofs.YtkmhjcjpohpiaaaGreat
open Go Go.Vc
open Classical
/-- A binary diagram as one with the leaves 0 and 1. -/
def pM (v : Int) (N : List Fk) (r : Int) : Mg := ⟨v, [0, 1], N, r⟩
section
variable {v r : Int} {N : List Fk}
theorem pm_ge {i : Int} (h : ¬ (mG (pM v N r)).lf i) : 2 ≤ i := by
  have h : ¬ i < ((2 : Nat) : Int) := h
  omega
theorem pm_lt {i : Int} (h : (mG (pM v N r)).ok i) : 0 ≤ i ∧ i < 2 + N.length := by
  have h1 : i < ((2 : Nat) : Int) + N.length := h.2
  exact ⟨h.1, by omega⟩
theorem pm_ok {i : Int} (h : Bd.Rf N i) : (mG (pM v N r)).ok i := ⟨h.1, by have := h.2; show i < ((2 : Nat) : Int) + N.length; omega⟩
theorem pm_nd (i : Int) : (mG (pM v N r)).nd i = Bd.nd N i := rfl
theorem pm_lev (i : Int) : lev v (mG (pM v N r)) i = Bd.lev v N i := by
  by_cases h : i < 2
  · rw [Bd.lev_const h, lev_lf (show (mG (pM v N r)).lf i from h)]
  · rw [Bd.lev_node h, lev_nd (show ¬ (mG (pM v N r)).lf i from h)]; rfl
theorem pm_red (f : Bd.Fm v N) : GRed v (mG (pM v N r)) where
  vr := fun i h hl => f.vr i (pm_ge hl) (pm_lt h).2
  ne := fun i h hl => f.ne i (pm_ge hl) (pm_lt h).2
  lo := fun i h hl => by
    have h2 := pm_ge hl
    have a := f.lo i h2 (pm_lt h).2
    have hq := (pm_lt h).2
    have b : Bd.Rf N (Bd.nd N i).l := ⟨a.1, by omega⟩
    refine ⟨pm_ok b, ?_, ?_⟩
    · show ((Bd.nd N i).l + 1 - ((2 : Nat) : Int)).toNat < (i + 1 - ((2 : Nat) : Int)).toNat; omega
    · rw [pm_lev]; exact a.2.2
  hi := fun i h hl => by
    have h2 := pm_ge hl
    have a := f.hi i h2 (pm_lt h).2
    have hq := (pm_lt h).2
    have b : Bd.Rf N (Bd.nd N i).h := ⟨a.1, by omega⟩
    refine ⟨pm_ok b, ?_, ?_⟩
    · show ((Bd.nd N i).h + 1 - ((2 : Nat) : Int)).toNat < (i + 1 - ((2 : Nat) : Int)).toNat; omega
    · rw [pm_lev]; exact a.2.2
  uq := fun i s h hl h' hl' e => f.uq i s (pm_ge hl) (pm_lt h).2 (pm_ge hl') (pm_lt h').2 e
theorem pm_bd (f : Bd.Fm v N) : ∀ j : Int, 0 ≤ j → j < (pM v N r).N.length → (0 ≤ (fk (pM v N r).N j).l ∧ (fk (pM v N r).N j).l < (pM v N r).L.length + j) ∧ (0 ≤ (fk (pM v N r).N j).h ∧ (fk (pM v N r).N j).h < (pM v N r).L.length + j) := fun j h0 h1 => by
  have h1 : j < N.length := h1
  have a := f.lo (j + 2) (by omega) (by omega)
  have b := f.hi (j + 2) (by omega) (by omega)
  have e : Bd.nd N (j + 2) = fk N j := by unfold Bd.nd; rw [show j + 2 - 2 = j by omega]
  rw [e] at a b
  show (0 ≤ (fk N j).l ∧ (fk N j).l < ((2 : Nat) : Int) + j) ∧ (0 ≤ (fk N j).h ∧ (fk N j).h < ((2 : Nat) : Int) + j)
  omega
theorem pm_bd2 (f : Bd.Fm v N) {j : Int} (h0 : 0 ≤ j) (h1 : j < N.length) : (0 ≤ (fk N j).l ∧ (fk N j).l < 2 + j) ∧ (0 ≤ (fk N j).h ∧ (fk N j).h < 2 + j) := pm_bd (r := 0) f j h0 h1
theorem pm_vr (f : Bd.Fm v N) {j : Int} (h0 : 0 ≤ j) (h1 : j < N.length) : 0 ≤ (fk N j).v ∧ (fk N j).v < v := by
  have a := f.vr (j + 2) (by omega) (by omega)
  have e : Bd.nd N (j + 2) = fk N j := by unfold Bd.nd; rw [show j + 2 - 2 = j by omega]
  rw [e] at a; exact a
theorem pm_vl (f : Bd.Fm v N) (e : Int → Bool) : ∀ (k : Nat) (i : Int), Bd.Rf N i → i ≤ k → gev (mG (pM v N r)) e i = if Bd.vl N e i = true then 1 else 0 := by
  intro k
  induction k with
  | zero =>
    intro i h hk
    have : i = 0 := by have := h.1; omega
    subst this
    rw [gev_lf (show (mG (pM v N r)).lf 0 by show (0 : Int) < ((2 : Nat) : Int); omega), Bd.vl_const (by omega)]
    rfl
  | succ k ih =>
    intro i h hk
    by_cases h2 : i < 2
    · rw [gev_lf (show (mG (pM v N r)).lf i from h2), Bd.vl_const h2]
      have := h.1
      rcases (show i = 0 ∨ i = 1 by omega) with e | e <;> subst e <;> rfl
    · have a := f.lo i (by omega) h.2
      have b := f.hi i (by omega) h.2
      have h3 := h.2
      rw [gev_step (pm_red f) (pm_ok h) (show ¬ (mG (pM v N r)).lf i from h2), Bd.vl_step f (by omega) h.2, pm_nd]
      split
      · rw [ih _ ⟨b.1, by omega⟩ (by omega)]
      · rw [ih _ ⟨a.1, by omega⟩ (by omega)]
/-- The lifted diagram. -/
noncomputable def lfD (v : Int) (N : List Fk) (r : Int) : Mg := dg v (tabv v fun e => if Bd.vl N e r = true then (1 : Int) else 0)
theorem lf_0 : RInv (pM v N r) (-1) false (lfR (lfR [] 0).1 1).1 [] [(lfR [] 0).2, (lfR (lfR [] 0).1 1).2] := by
  have a := rinv_leaf (A := pM v N r) (i := -1) (b := false) rinv0 (k := 0) rfl (by show (0 : Int) < ((2 : Nat) : Int); omega) (by show inR 0; unfold inR; omega)
  have c := rinv_leaf a (k := 1) rfl (by show (1 : Int) < ((2 : Nat) : Int); omega) (by show inR 1; unfold inR; omega)
  exact c
theorem lf_nd {M : List Fk} {R : List Int} {j : Int} (f : Bd.Fm v N) (h0 : 0 ≤ j) (h1 : j < N.length) : rsN (pM v N r) (-1) false M R j = ndR M (fk N j).v (gi R (fk N j).l) (gi R (fk N j).h) :=
  rsN_n (A := pM v N r) (by have := (pm_vr f h0 h1).1; show (fk N j).v ≠ -1; omega)
theorem lf_step {L R : List Int} {M : List Fk} {j : Int} (f : Bd.Fm v N) (c : RInv (pM v N r) (-1) false L M R) (hk : (R.length : Int) = 2 + j) (h0 : 0 ≤ j) (h1 : j < N.length) :
    RInv (pM v N r) (-1) false L (ndR M (fk N j).v (gi R (fk N j).l) (gi R (fk N j).h)).1 (R ++ [(ndR M (fk N j).v (gi R (fk N j).l) (gi R (fk N j).h)).2]) := by
  have := rinv_node (pm_red f) (pm_bd f) c (by show (R.length : Int) = ((2 : Nat) : Int) + j; omega) h0 h1
  rw [lf_nd f h0 h1] at this; exact this
theorem lf_fin {L R : List Int} {M : List Fk} (h : Bd.Ok v N r) (c : RInv (pM v N r) (-1) false L M R) (hR : (R.length : Int) = 2 + N.length) :
    (bV L M).ok (gi R r) ∧ bD v L M (gi R r) = lfD v N r ∧ finE L (bD v L M (gi R r)) = 0 := by
  have hf := h.2.2.1.1
  have hrf : Bd.Rf N r := ⟨h.2.2.1.2.1, by have := h.2.2.1.2.2; omega⟩
  have hr : (mG (pM v N r)).ok r := pm_ok hrf
  obtain ⟨a1, a2, a3, _⟩ := c.fin h.1.1 (by show 2 ≤ 4096; omega) h.2.1 (by show (R.length : Int) = ((2 : Nat) : Int) + N.length; omega) hr
  refine ⟨a1, ?_, a3⟩
  have e : (tabv v fun e => vl (pM v N r) (up e (-1) false)) = tabv v fun e => if Bd.vl N e r = true then (1 : Int) else 0 := by
    congr 1
    funext e
    have d : Dep v (fun e => gev (mG (pM v N r)) e r) := gev_dep (pm_red hf) h.1.1 hr
    have e1 : gev (mG (pM v N r)) (up e (-1) false) r = gev (mG (pM v N r)) e r := d _ _ fun i h0 _ => if_neg (by omega)
    show gev (mG (pM v N r)) (up e (-1) false) r = _
    rw [e1]; exact pm_vl hf e r.toNat r hrf (by have := hrf.1; omega)
  exact a2.trans (congrArg (dg v) e)
theorem lf_dep (h : Bd.Ok v N r) : Dep v (fun e => if Bd.vl N e r = true then (1 : Int) else 0) := by
  have hrf : Bd.Rf N r := ⟨h.2.2.1.2.1, by have := h.2.2.1.2.2; omega⟩
  have d : Dep v (fun e => gev (mG (pM v N r)) e r) := gev_dep (pm_red h.2.2.1.1) h.1.1 (pm_ok hrf)
  have e : (fun e => gev (mG (pM v N r)) e r) = fun e => if Bd.vl N e r = true then (1 : Int) else 0 := funext fun e => pm_vl h.2.2.1.1 e r.toNat r hrf (by have := hrf.1; omega)
  rwa [e] at d
theorem in01 (b : Bool) : inR (if b = true then (1 : Int) else 0) := by split <;> (unfold inR; omega)
theorem lf_ok (h : Bd.Ok v N r) (h12 : v ≤ 12) : Ok (lfD v N r) ∧ (lfD v N r).v = v ∧ ∀ e, vl (lfD v N r) e = if Bd.vl N e r = true then 1 else 0 := by
  have hd := lf_dep h
  have hin : ∀ z ∈ tabv v (fun e => if Bd.vl N e r = true then (1 : Int) else 0), inR z := fun z hz => by
    obtain ⟨e, rfl⟩ := (tabv_mem h.1.1 hd).1 hz
    exact in01 _
  obtain ⟨m0, m1⟩ := mk_small (vars := v) h12 (tabv_len _) hin
  have ok := mk_ok h.1.1 h.1.2 (tabv_len _) m0
  rw [m1] at ok
  exact ⟨ok, rfl, fun e => vl_dg h.1.1 hd (fun e => in01 _) e⟩
end
end Go.Proofs.YtkmhjcjpohpiaaaGreat

namespace Go.Proofs.YtkmhjcjpohpiaaaGreat
open Go Go.Vc
open Classical
theorem take_giC {l : List Int} {k : Int} (h0 : 0 ≤ k) (h1 : k < l.length) : l.take (k + 1).toNat = l.take k.toNat ++ [gi l k] := by
  rw [show (k + 1).toNat = k.toNat + 1 by omega, List.take_add_one, List.getElem?_eq_getElem (by omega)]
  show _ = _ ++ [l.getD k.toNat 0]
  rw [List.getD_eq_getElem?_getD, List.getElem?_eq_getElem (by omega)]; rfl
theorem vld3 {A B C : Mg} : Vld [A, B, C] ↔ Ok A ∧ Ok B ∧ Ok C := ⟨fun h => ⟨h 0 (by omega) (by show (0 : Int) < ((3 : Nat) : Int); omega), h 1 (by omega) (by show (1 : Int) < ((3 : Nat) : Int); omega), h 2 (by omega) (by show (2 : Int) < ((3 : Nat) : Int); omega)⟩, fun h i h0 h1 => by
  have h1 : i < ((3 : Nat) : Int) := h1
  rcases (show i = 0 ∨ i = 1 ∨ i = 2 by omega) with rfl | rfl | rfl
  · exact h.1
  · exact h.2.1
  · exact h.2.2⟩
theorem sam3 {A B C : Mg} : Sam [A, B, C] ↔ B.v = A.v ∧ C.v = A.v := ⟨fun h => ⟨h 1 (by omega) (by show (1 : Int) < ((3 : Nat) : Int); omega), h 2 (by omega) (by show (2 : Int) < ((3 : Nat) : Int); omega)⟩, fun h i h0 h1 => by
  have h1 : i < ((3 : Nat) : Int) := h1
  rcases (show i = 0 ∨ i = 1 ∨ i = 2 by omega) with rfl | rfl | rfl
  · rfl
  · exact h.1
  · exact h.2⟩
section
variable {v r : Int} {N : List Fk} {A B : Mg}
noncomputable def chT (v : Int) (N : List Fk) (r : Int) (A B : Mg) : List Int := tabv v fun e => if vl (lfD v N r) e = 1 then vl A e else vl B e
noncomputable def chE (v : Int) (N : List Fk) (r : Int) (A B : Mg) : Int := if Bd.Ok v N r then vE [lfD v N r, A, B] else 1
noncomputable def chD (v : Int) (N : List Fk) (r : Int) (A B : Mg) : Mg := if chE v N r A B = 0 then mkD v (chT v N r A B) else zM
theorem ch_1 (h : ¬ Bd.Ok v N r) : chE v N r A B = 1 ∧ chD v N r A B = zM := by
  have e : chE v N r A B = 1 := if_neg h
  exact ⟨e, if_neg (by rw [e]; omega)⟩
theorem ch_v (h : Bd.Ok v N r) (q : vE [lfD v N r, A, B] ≠ 0) : chE v N r A B = vE [lfD v N r, A, B] ∧ chD v N r A B = zM := by
  have e : chE v N r A B = vE [lfD v N r, A, B] := if_pos h
  exact ⟨e, if_neg (by rw [e]; exact q)⟩
theorem ch_0 (h : Bd.Ok v N r) (h12 : v ≤ 12) (q : vE [lfD v N r, A, B] = 0) : chE v N r A B = 0 ∧ chD v N r A B = mkD v (chT v N r A B) ∧ mkE v (chT v N r A B) = 0 ∧ mkD v (chT v N r A B) = dg v (chT v N r A B) := by
  have e : chE v N r A B = 0 := (if_pos h).trans q
  obtain ⟨hv, hs⟩ := vE_ok.1 q
  obtain ⟨_, oa, ob⟩ := vld3.1 hv
  obtain ⟨sa, sb⟩ := sam3.1 hs
  obtain ⟨ol, lv, lvl⟩ := lf_ok h h12
  have hd : Dep v fun e => if vl (lfD v N r) e = 1 then vl A e else vl B e := fun e e' he => by
    have d1 := ol.dep e e' he
    have d2 := oa.dep e e' (fun i a b => he i a (by have : i < A.v := b; rw [sa] at this; exact this))
    have d3 := ob.dep e e' (fun i a b => he i a (by have : i < B.v := b; rw [sb] at this; exact this))
    show (if vl (lfD v N r) e = 1 then vl A e else vl B e) = if vl (lfD v N r) e' = 1 then vl A e' else vl B e'
    rw [d1, d2, d3]
  have hin : ∀ z ∈ chT v N r A B, inR z := fun z hz => by
    obtain ⟨e, rfl⟩ := (tabv_mem h.1.1 hd).1 hz
    split
    · exact vl_in oa e
    · exact vl_in ob e
  obtain ⟨m0, m1⟩ := mk_small (vars := v) h12 (tabv_len _) hin
  exact ⟨e, if_pos e, m0, m1⟩
theorem ch_bad (h12 : Bd.Ok v N r → v ≤ 12) (h : Bd.chkC v N r ≠ 0 ∨ chkC A ≠ 0 ∨ chkC B ≠ 0) : chE v N r A B = 1 ∧ chD v N r A B = zM := by
  by_cases ok : Bd.Ok v N r
  · have hv : vE [lfD v N r, A, B] = 1 := vE_1 fun q => by
      obtain ⟨_, oa, ob⟩ := vld3.1 q
      rcases h with h | h | h
      · exact h (Bd.chk_0 ok)
      · exact h (chk_0 oa)
      · exact h (chk_0 ob)
    have := ch_v (A := A) (B := B) ok (by rw [hv]; omega)
    rwa [hv] at this
  · exact ch_1 ok
theorem ch_mis (ok : Bd.Ok v N r) (h12 : v ≤ 12) (oa : Ok A) (ob : Ok B) (h : v ≠ A.v ∨ A.v ≠ B.v) : chE v N r A B = 2 ∧ chD v N r A B = zM := by
  have hv : vE [lfD v N r, A, B] = 2 := vE_2 (vld3.2 ⟨(lf_ok ok h12).1, oa, ob⟩) fun q => by
    have s := sam3.1 q
    have e : (lfD v N r).v = v := rfl
    rw [e] at s
    omega
  have := ch_v (A := A) (B := B) ok (by rw [hv]; omega)
  rwa [hv] at this
theorem ch_ok (ok : Bd.Ok v N r) (h12 : v ≤ 12) (oa : Ok A) (ob : Ok B) (h1 : v = A.v) (h2 : A.v = B.v) : chE v N r A B = 0 ∧ chD v N r A B = dg A.v (chT v N r A B) := by
  have hz : vE [lfD v N r, A, B] = 0 := vE_0 (vld3.2 ⟨(lf_ok ok h12).1, oa, ob⟩) (sam3.2 ⟨h1.symm, by rw [← h2]; exact h1.symm⟩)
  obtain ⟨a, b, _, c⟩ := ch_0 ok h12 hz
  exact ⟨a, by rw [b, c, h1]⟩
theorem chT_len : (chT v N r A B).length = 2 ^ v.toNat := tabv_len _
theorem chT_all {i : Int} (h : (2 : Int) ^ v.toNat ≤ i) : (chT v N r A B).take i.toNat = chT v N r A B := List.take_of_length_le (by
  rw [chT_len]
  have e2 : ((2 ^ v.toNat : Nat) : Int) = (2 : Int) ^ v.toNat := by simp
  omega)
theorem chT_take (ok : Bd.Ok v N r) (h12 : v ≤ 12) (h1 : v = A.v) (h2 : A.v = B.v) {i : Int} (i0 : 0 ≤ i) (i1 : i < 2 ^ v.toNat) :
    (chT v N r A B).take (i + 1).toNat = (chT v N r A B).take i.toNat ++ [if gb (Bd.tbD ⟨v, N, r⟩) i = true then gi (vT A) i else gi (vT B) i] := by
  have h00 := ok.1.1
  have hl : ((chT v N r A B).length : Int) = 2 ^ v.toNat := tabv_lenI h00
  have e1 : gi (chT v N r A B) i = if vl (lfD v N r) (asg v i) = 1 then vl A (asg v i) else vl B (asg v i) := tabv_gi (g := fun e => if vl (lfD v N r) e = 1 then vl A e else vl B e) h00 i0 i1
  have e2 : gi (vT A) i = vl A (asg v i) := by rw [h1]; exact tabv_gi (h1 ▸ h00) i0 (h1 ▸ i1)
  have e3 : gi (vT B) i = vl B (asg v i) := by
    have : vT B = tabv v (vl B) := by rw [h1, h2]
    rw [this]; exact tabv_gi h00 i0 i1
  have e4 : gb (Bd.tbD ⟨v, N, r⟩) i = Bd.vl N (asg v i) r := Bd.tbl_get i0 i1
  rw [take_giC i0 (by omega), e1, e2, e3, e4, (lf_ok ok h12).2.2]
  cases Bd.vl N (asg v i) r <;> simp
end
end Go.Proofs.YtkmhjcjpohpiaaaGreat
