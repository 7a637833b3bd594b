/- Wo. -/
import Derived.Test.YtkmhjcjpohpiaaaWb
import Derived.Test.YtkmhjcjpohpiaaaWm
import Derived.Test.YtkmhjcjpohpiaaaTy
import Derived.Test.YtkmhjcjpohpiaaaSh
import Derived.Lib.SlicesCompact
import Derived.Walk
import Derived.Deep.QuietTactic
import Derived.BigQuiet
import Derived.RangeFuncBox
import Derived.RangeFuncLeaves
import Derived.RangeFuncNested
import Derived.Shelf.Abstract
import Derived.WalkKit
import Derived.OwnWalkIn
import Derived.TacticsInMore
import Derived.LoopNIn
import Derived.LoopIn
import Derived.Maps.AppendAt
import Derived.Test.YtkmhjcjpohpiaaaWn
import Derived.Test.YtkmhjcjpohpiaaaProg
import Derived.StillTailTactics
import Derived.RangeFuncRecord
import Derived.Shelf.SlSortCmp.WholeK
import Derived.Test.YtkmhjcjpohpiaaaVcA
namespace Go.Proofs.Ytkmhjcjpohpiaaa
open Go Go.Vc Go.Sort Go.RowKit
theorem put_heap {w : World} {g n : Nat} {zs : List Int} {E : TypeId} {cur : Array Value} (hb : w.heap[g]? = some (.cells cur E (0, 0))) :
    putRow (Value.int .i64) (Sort.ahead w n) g 0 zs.toArray = { ({ w with drawn := w.drawn + n } : World) with heap := w.heap.setIfInBounds g (.cells (putCells (Value.int .i64) 0 zs.toArray cur) E (0, 0)) } := by
  have hlt : g < w.heap.size := hv_lt (w := w) hb
  have hg : w.heap[g] = .cells cur E (0, 0) := by rw [Array.getElem?_eq_getElem hlt] at hb; exact Option.some.inj hb
  unfold putRow mapBlock Sort.ahead
  congr 1
  apply Array.ext
  · simp
  · intro i h1 h2
    simp only [Array.getElem_modify]
    by_cases hi : g = i
    · subst hi; simp [hg, onCells]
    · rw [if_neg hi, Array.getElem_setIfInBounds_ne _ hi]
theorem putCells_take {zs : List Int} {cur : Array Value} {n : Nat} (hn : zs.length = n) (hc : n ≤ cur.size) : (putCells (Value.int .i64) 0 zs.toArray cur).toList.take n = zs.map (Value.int .i64) := by
  apply List.ext_getElem
  · simp [putCells]; omega
  · intro i h1 h2
    simp at h1 h2
    have hi : i < zs.length := by omega
    simp [putCells, List.getElem_take, hi]
theorem putCells_take2 {zs : List Int} {cur : Array Value} {n : Nat} (hn : n ≤ zs.length) (hc : zs.length ≤ cur.size) : (putCells (Value.int .i64) 0 zs.toArray cur).toList.take n = (zs.take n).map (Value.int .i64) := by
  have h := putCells_take (zs := zs) (cur := cur) rfl hc
  have h2 := congrArg (List.take n) h
  rw [List.take_take, Nat.min_eq_left hn, ← List.map_take] at h2
  exact h2
theorem cmp_run {W : World} {pb bb c off n cap : Nat} {i j x y : Int} (h1 : ∀ q, (W.drewN q).cell? ⟨pb,0,none⟩ = some (.pointer (some ⟨bb,0,none⟩))) (h2 : ∀ q, (W.drewN q).cell? ⟨bb,0,none⟩ = some (.slice (some ⟨c, off, none⟩) n cap))
   (h3 : ∀ q, (W.drewN q).cell? ⟨c, off+i.toNat, none⟩ = some (.int .i64 x)) (h4 : ∀ q, (W.drewN q).cell? ⟨c, off+j.toNat, none⟩ = some (.int .i64 y)) (hi : 0 ≤ i) (hi2 : i < n) (hj : 0 ≤ j) (hj2 : j < n) (hw : IntKind.i64.wrap (x - y) = x - y) : Calls Try.prog 130 #[.int .i64 i, .int .i64 j, .pointer (some ⟨pb,0,none⟩)] W fun e w' => e = .returned (.int .i64 (x - y)) ∧ ∃ q, w' = W.drewN q := by
  go_enter Try.func130, Try.ntmps130
  go_wp2
  go_quiet (fail)
  go_wp2
  go_ret
  exact ⟨rfl, nq, rfl⟩
theorem sw_heap {α : Type} [Inhabited α] {enc : α → Value} {w : World} {g off m b : Nat} {dk : Array α} {os : Array Obj} (hb : b ≠ g) (hlt : b < w.heap.size) : (sortWorld enc w g off m dk os).heap[b]? = w.heap[b]? := by
  unfold sortWorld grow putRow mapBlock Sort.ahead
  have hs : b < (w.heap.modify g (onCells (putCells enc off dk))).size := by simpa using hlt
  show ((w.heap.modify g (onCells (putCells enc off dk))) ++ os)[b]? = _
  rw [Array.getElem?_append_left hs, Array.getElem?_eq_getElem hs, Array.getElem?_eq_getElem hlt, Array.getElem_modify, if_neg fun e => hb e.symm]
abbrev LfI (L : List Int) := { i : Int // 0 ≤ i ∧ i < L.length }
def enI {L : List Int} (x : LfI L) : Value := .int .i64 x.val
def cfI (L : List Int) (x y : LfI L) : Int := gi L x.val - gi L y.val
theorem swoI (L : List Int) : SWO (ltOf (cfI L)) where
  irrefl := fun x => by simp [ltOf, cfI]
  trans := fun x y z h1 h2 => by unfold ltOf cfI at *; have h1 := of_decide_eq_true h1; have h2 := of_decide_eq_true h2; exact decide_eq_true (by omega)
  ntrans := fun x y z h1 h2 => by unfold ltOf cfI at *; have h1 := of_decide_eq_false h1; have h2 := of_decide_eq_false h2; exact decide_eq_false (by omega)
theorem put_mapI {L : List Int} (zs : List (LfI L)) (c : Array Value) [Inhabited (LfI L)] : putCells enI 0 zs.toArray c = putCells (Value.int .i64) 0 (zs.map (·.val)).toArray c := by
  unfold putCells
  apply Array.ext
  · simp
  · intro k h1 h2
    simp only [Array.getElem_mapIdx, List.size_toArray, List.length_map]
    split
    · rename_i h
      have hk : k < zs.length := by simpa using h.2
      simp [enI, hk]
    · rfl
theorem putRow_mapI {L : List Int} [Inhabited (LfI L)] (zs : List (LfI L)) (w : World) (g : Nat) : putRow enI w g 0 zs.toArray = putRow (Value.int .i64) w g 0 (zs.map (·.val)).toArray := by
  unfold putRow
  congr 1
  funext c
  exact put_mapI zs c
theorem SortL_c {V : HV} {v u : Value} {zs L : List Int} {pb bb : Nat} {cs : List Value} (hp : Cells V pb [.pointer (some ⟨bb, 0, none⟩)]) (hbb : Cells V bb (u :: cs)) (hL : Ints .i64 V u L) (hz : ∀ z ∈ zs, 0 ≤ z ∧ z < L.length)
    (hin : ∀ z ∈ L, inR z) (hnod : ∀ i j : Int, 0 ≤ i → i < L.length → 0 ≤ j → j < L.length → gi L i = gi L j → i = j) (hsz : zs.length < 4611686018427387904) :
    FnC Try.prog 129 [v, .func (.func 130) #[] #[.pointer (some ⟨pb, 0, none⟩)]] V [Gr 3 1 v zs.length (zs.map (Value.int .i64))] (fun u V' σ' => u = .tuple #[] ∧ V' = V ∧ σ' = [Gr 3 1 v zs.length ((lvS L zs).map (Value.int .i64))]) := by
  refine ⟨⟨_, Try.func129, by rfl, by rfl⟩, fun w0 hs0 h1 h2 h3 h4 => ?_⟩
  have m0 := mem_start h1 h2 h3 h4
  obtain ⟨h, hh⟩ : ∃ h, hs0 = [h] := by
    match hs0, h1 with
    | [h], _ => exact ⟨h, rfl⟩
  subst hh
  have hg : Gr 3 1 v zs.length (zs.map (Value.int .i64)) h := h1.1
  obtain ⟨hl, hg⟩ := hg
  rcases hg with ⟨rfl, hn, _⟩ | ⟨g, cap, cur, rfl, rfl, q1, q2, q3, q4⟩
  · have hz : zs = [] := List.eq_nil_of_length_eq_zero hn
    subst hz
    refine (Try.slices_SortFunc_none (α := Int) none 0 _ w0).mono fun e w' ⟨he, hw⟩ => ?_
    subst hw
    exact ⟨_, V, _, he, ⟨rfl, rfl, rfl⟩, by simpa [lvS] using m0⟩
  by_cases hz0 : zs = []
  · subst hz0
    refine (Try.slices_SortFunc_none (α := Int) _ _ _ w0).mono fun e w' ⟨he, hw⟩ => ?_
    subst hw
    exact ⟨_, V, _, he, ⟨rfl, rfl, rfl⟩, by simpa [lvS] using m0⟩
  obtain ⟨z0, hz0⟩ := List.exists_mem_of_ne_nil _ hz0
  letI : Inhabited (LfI L) := ⟨⟨z0, hz z0 hz0⟩⟩
  let ds : List (LfI L) := zs.pmap (fun x h => (⟨x, h⟩ : LfI L)) hz
  have hds : ds.map (·.val) = zs := by simp [ds, List.map_pmap]
  have hdl : ds.length = zs.length := by simp [ds]
  have hdz : (ds.mergeSort fun x y => !(ltOf (cfI L)) y x).map (·.val) = lvS L zs := by
    unfold lvS
    rw [List.map_mergeSort (r := fun x y => !(ltOf (cfI L)) y x) (s := fun i j : Int => decide (gi L i ≤ gi L j)) (f := fun x : LfI L => x.val) (fun a _ b _ => by
      unfold ltOf cfI
      by_cases h : gi L a.val ≤ gi L b.val
      · rw [decide_eq_true h, decide_eq_false (by omega)]; rfl
      · rw [decide_eq_false h, decide_eq_true (by omega)]; rfl), hds]
  have hb : w0.heap[g]? = some (.cells cur 3 (0, 0)) := (h4 (Vc.one g (.cells cur 3 (0, 0))) (List.mem_singleton.2 rfl)).1 g _ (by show (if g = g then some _ else none) = _; rw [if_pos rfl])
  have hgV : V g = none := by
    rcases (h4 (Vc.one g (.cells cur 3 (0, 0))) (List.mem_singleton.2 rfl)).2 g with q | q
    · simp [Vc.one] at q
    · exact q
  have hH : Holds enI w0 g 0 ds.toArray := fun j hj => by
    have hj1 : j < ds.length := by simpa using hj
    have hj' : j < zs.length := by omega
    have e0 : (ds.toArray[j]!).val = zs[j] := by
      have := congrArg (fun l => l[j]?) hds
      simp only [List.getElem?_map, List.getElem?_eq_getElem hj', List.getElem?_eq_getElem hj1, Option.map_some, Option.some.injEq] at this
      simpa [hj1] using this
    have e : cur[j]? = some (.int .i64 zs[j]) := by
      have := congrArg (fun l => l[j]?) q4
      simp only [List.getElem?_take, List.getElem?_map] at this
      rw [if_pos (by omega)] at this
      simpa [List.getElem?_eq_getElem hj'] using this
    refine ⟨?_, by simp [World.frozen?, hb]⟩
    unfold enI
    rw [e0]
    simp [World.cell?, hb, e]
  -- what the comparison reads
  have hread : ∀ (b : Nat) (o : Obj), V b = some o → ∀ m os (dk : Array (LfI L)), (sortWorld enI w0 g 0 m dk os).heap[b]? = some o := fun b o hbo m os dk => by
    have hlt : b < w0.heap.size := hv_lt (w := w0) (h3 b o hbo)
    have := sw_heap (enc := enI) (w := w0) (g := g) (off := 0) (m := m) (dk := dk) (os := os) (b := b) (fun e => by rw [e, hgV] at hbo; cases hbo) hlt
    rw [this]; exact h3 b o hbo
  obtain ⟨a, c, rfl, hc1, hc2, hsl⟩ := hL
  have hLn : L.map (Value.int .i64) ≠ [] := fun e => by
    have := (hz z0 hz0)
    have e2 : L = [] := by simpa using e
    rw [e2] at this
    have e3 : ((([] : List Int).length : Nat) : Int) = 0 := rfl
    omega
  obtain ⟨lb, off, lc, T, fz, rfl, hlb, hle⟩ := hsl hLn
  obtain ⟨Tp, fp, hp⟩ := hp
  obtain ⟨Tb, fb, hbb⟩ := hbb
  have hcmp : CmpLays1 Try.prog 130 #[.pointer (some ⟨pb, 0, none⟩)] enI (cfI L) g 0 ds.toArray.size w0 := CmpReads.lays fun m os dk _ x y => by
    have hel : ∀ z : LfI L, ∀ q, ((sortWorld enI w0 g 0 m dk os).drewN q).cell? ⟨lb, off + z.val.toNat, none⟩ = some (.int .i64 (gi L z.val)) := fun z q => by
      have hzl : z.val.toNat < L.length := by have := z.2; omega
      have := hle z.val.toNat (by simpa using hzl)
      rw [List.getElem?_map, List.getElem?_eq_getElem hzl] at this
      simp only [Option.map_some] at this
      simp [World.cell?, hread lb _ hlb m os dk, this, List.getElem?_eq_getElem hzl]
    have hr : ∀ z : LfI L, inR (gi L z.val) := fun z => hin _ (gi_mem z.2.1 z.2.2)
    have r1 := hr x
    have r2 := hr y
    unfold inR at r1 r2
    exact cmp_run (i := x.val) (j := y.val) (x := gi L x.val) (y := gi L y.val) (n := L.length) (bb := bb) (c := lb) (off := off) (cap := c) (fun q => by simp [World.cell?, hread pb _ hp m os dk]) (fun q => by simp [World.cell?, hread bb _ hbb m os dk]) (hel x) (hel y) x.2.1 x.2.2 y.2.1 y.2.2 (IntWalk.i64_in _ (by omega))
  have eg : ∀ args w, (callFunc 130 args).run Try.prog w = .ok (.enter 130 args) w := enters_of Try.func130 (by kernel_rfl) rfl
  have call := Try.slices_SortFunc_total enI (fun _ => rfl) (cfI L) (swoI L) 130 #[.pointer (some ⟨pb, 0, none⟩)] g 0 cap ds.toArray w0 eg hcmp hH (hv_lt (w := w0) hb) (by simpa [hdl] using hsz) (fun x y a b => by
    unfold ltOf cfI at a b
    have a := of_decide_eq_false a
    have b := of_decide_eq_false b
    exact Subtype.ext (hnod _ _ x.2.1 x.2.2 y.2.1 y.2.2 (by omega)))
  rw [show ds.toArray.size = zs.length by simpa using hdl] at call
  refine call.mono fun e w' ⟨he, n, os, hw⟩ => ?_
  have hlen : (lvS L zs).length = zs.length := lvS_len L zs
  unfold sortWorld at hw
  rw [putRow_mapI, hdz, put_heap hb] at hw
  have m1 : Mem ⟨w0, V, dom [Vc.one g (.cells cur 3 (0, 0))]⟩ V [Blk g (.cells cur 3 (0, 0))] w0 :=
    mem_start (σ0 := [Blk g (.cells cur 3 (0, 0))]) ⟨rfl, trivial⟩ h2 h3 h4
  have m2 := (m1.drawn (w0.drawn + n)).setBlk (k := 0) rfl (.cells (putCells (Value.int .i64) 0 (lvS L zs).toArray cur) 3 (0, 0)) _ rfl
  have hext : ∀ (w : World), Ext w (grow w os) := fun w => ⟨rfl, rfl, rfl, by simp [grow], fun k hk => by simp [grow, Array.getElem?_append, hk]⟩
  have m3 := m2.ext (hext _)
  rw [hw]
  refine ⟨_, V, _, he, ⟨rfl, rfl, rfl⟩, ?_⟩
  obtain ⟨hs, s1, s2, s3⟩ := m3.own
  refine ⟨m3.os, m3.tape, m3.output, m3.size, m3.frame, m3.sub, m3.view, m3.vold, hs, ?_, s2, s3⟩
  match hs, s1 with
  | [x], s1 =>
    refine ⟨⟨by simp [hlen], .inr ⟨g, cap, _, rfl, s1.1, q1, q2, by simp [putCells]; omega, ?_⟩⟩, trivial⟩
    rw [Nat.mul_one]
    exact putCells_take hlen (by omega)
end Go.Proofs.Ytkmhjcjpohpiaaa

namespace Go.Vc
open Go.RowKit
def joinL : List HV → HV
  | [] => fun _ => none
  | h :: hs => plus h (joinL hs)
/-- Pieces as one piece. -/
def Pk (σ : Res) : Asrt := fun h => ∃ hs, Sat σ hs ∧ hs.Pairwise Disj ∧ h = joinL hs
/-- A piece of one of several forms. -/
def ExA {α : Type} (A : α → Asrt) : Asrt := fun h => ∃ a, A a h
theorem plus_none {g h : HV} {b : Nat} : plus g h b = none ↔ g b = none ∧ h b = none := by
  unfold plus
  cases g b with
  | some o => simp
  | none => simp
theorem joinL_none {b : Nat} : ∀ {hs : List HV}, joinL hs b = none ↔ ∀ h ∈ hs, h b = none
  | [] => by simp [joinL]
  | h :: hs => by
    show plus h (joinL hs) b = none ↔ _
    rw [plus_none, joinL_none (hs := hs)]; simp
theorem disj_joinL {k : HV} {hs : List HV} (h : ∀ x ∈ hs, Disj x k) : Disj (joinL hs) k := fun b => by
  by_cases q : k b = none
  · exact .inr q
  · exact .inl (joinL_none.2 fun x hx => (h x hx b).resolve_right q)
theorem sub_joinL : ∀ {hs : List HV}, hs.Pairwise Disj → ∀ h ∈ hs, Sub h (joinL hs)
  | [], _, _, hm => by cases hm
  | x :: hs, hp, h, hm => by
    have hp := List.pairwise_cons.1 hp
    rcases List.mem_cons.1 hm with e | e
    · rw [e]; exact sub_plus_left _ _
    · have hd : Disj x (joinL hs) := (disj_joinL fun y hy => (hp.1 y hy).symm).symm
      exact (sub_joinL hp.2 h e).trans (sub_plus_right hd)
theorem joinL_sub {k : HV} : ∀ {hs : List HV}, (∀ h ∈ hs, Sub h k) → Sub (joinL hs) k
  | [], _ => fun b o h => by cases h
  | x :: hs, h => sub_plus (h x (List.mem_cons_self ..)) (joinL_sub fun y hy => h y (List.mem_cons_of_mem _ hy))
theorem Mem.unpack {C : Cx} {V : HV} {σ τ : Res} {w : World} (m : Mem C V (Pk σ :: τ) w) : Mem C V (σ ++ τ) w := by
  obtain ⟨hs, h1, h2, h3⟩ := m.own
  match hs, h1, h2, h3 with
  | x :: ht, h1, h2, h3 =>
    obtain ⟨ks, k1, k2, rfl⟩ := h1.1
    have h2 := List.pairwise_cons.1 h2
    have hx := h3 _ (List.mem_cons_self ..)
    refine ⟨m.os, m.tape, m.output, m.size, m.frame, m.sub, m.view, m.vold, ks ++ ht, k1.append h1.2, ?_, ?_⟩
    · rw [List.pairwise_append]
      exact ⟨k2, h2.2, fun a ha b hb c => (h2.1 b hb c).imp (fun q => joinL_none.1 q a ha) id⟩
    · intro h hh
      rcases List.mem_append.1 hh with q | q
      · have s := sub_joinL k2 h q
        refine ⟨s.trans hx.1, fun b => (hx.2.1 b).imp (fun z => joinL_none.1 z h q) id, fun b hb hne => hx.2.2 b hb fun z => hne (joinL_none.1 z h q)⟩
      · exact h3 h (List.mem_cons_of_mem _ q)
theorem Mem.pack {C : Cx} {V : HV} {σ τ : Res} {w : World} (m : Mem C V (σ ++ τ) w) : Mem C V (Pk σ :: τ) w := by
  obtain ⟨hs, h1, h2, h3⟩ := m.own
  obtain ⟨ks, ht, rfl, k1, k2⟩ := h1.split
  have h2 := List.pairwise_append.1 h2
  refine ⟨m.os, m.tape, m.output, m.size, m.frame, m.sub, m.view, m.vold, joinL ks :: ht, ⟨⟨ks, k1, h2.1, rfl⟩, k2⟩, List.pairwise_cons.2 ⟨fun y hy => disj_joinL fun x hx => h2.2.2 x hx y hy, h2.2.1⟩, ?_⟩
  intro h hh
  rcases List.mem_cons.1 hh with q | q
  · rw [q]
    refine ⟨joinL_sub fun x hx => (h3 x (List.mem_append_left _ hx)).1, disj_joinL fun x hx => (h3 x (List.mem_append_left _ hx)).2.1, fun b hb hne => ?_⟩
    apply Classical.byContradiction
    intro z
    exact hne (joinL_none.2 fun x hx => Classical.byContradiction fun y => z ((h3 x (List.mem_append_left _ hx)).2.2 b hb y))
  · exact h3 h (List.mem_append_right _ q)
theorem Mem.ex {α : Type} {A : α → Asrt} {C : Cx} {V : HV} {τ : Res} {w : World} (m : Mem C V (ExA A :: τ) w) : ∃ a, Mem C V (A a :: τ) w := by
  obtain ⟨hs, h1, h2, h3⟩ := m.own
  match hs, h1, h2, h3 with
  | x :: ht, h1, h2, h3 =>
    obtain ⟨a, ha⟩ := h1.1
    exact ⟨a, m.os, m.tape, m.output, m.size, m.frame, m.sub, m.view, m.vold, x :: ht, ⟨ha, h1.2⟩, h2, h3⟩
theorem Mem.exI {α : Type} {A : α → Asrt} {a : α} {C : Cx} {V : HV} {τ : Res} {w : World} (m : Mem C V (A a :: τ) w) : Mem C V (ExA A :: τ) w := by
  obtain ⟨hs, h1, h2, h3⟩ := m.own
  match hs, h1, h2, h3 with
  | x :: ht, h1, h2, h3 => exact ⟨m.os, m.tape, m.output, m.size, m.frame, m.sub, m.view, m.vold, x :: ht, ⟨⟨a, h1.1⟩, h1.2⟩, h2, h3⟩
/-- Pieces that depend on a thing, as one piece that does not say on which. -/
abbrev PkE {α : Type} (σ : α → Res) : Asrt := ExA fun a => Pk (σ a)
section
variable {P : Program} {C : Cx} {N : Nat} {K : K3} {Q : Ex → K3} {env : Env} {V : HV} {τ τ' : Res} {c : Code} {α : Type}
theorem vc_unpack (σ : α → Res) (hp : τ'.Perm (PkE σ :: τ)) (h : ∀ a, VC P C N c K Q env V (σ a ++ τ)) : VC P C N c K Q env V τ' := fun a w hf hm => by
  obtain ⟨x, hx⟩ := (hm.perm hp).ex
  exact h x a w hf hx.unpack
theorem vc_pack (σ : α → Res) (x : α) (hp : τ'.Perm (σ x ++ τ)) (h : VC P C N c K Q env V (PkE σ :: τ)) : VC P C N c K Q env V τ' := fun a w hf hm =>
  h a w hf (Mem.exI (a := x) (hm.perm hp).pack)
end
theorem dom_one (hs : List HV) : dom [joinL hs] = dom hs := by
  funext b
  apply propext
  constructor
  · rintro ⟨h, hm, hne⟩
    rw [List.mem_singleton.1 hm] at hne
    exact Classical.byContradiction fun z => hne (joinL_none.2 fun x hx => Classical.byContradiction fun y => z ⟨x, hx, y⟩)
  · rintro ⟨h, hm, hne⟩
    exact ⟨_, List.mem_singleton.2 rfl, fun z => hne (joinL_none.1 z h hm)⟩
section
variable {P : Program} {f : FuncId} {args : List Value} {V : HV}
/-- A function that looks into a state, for callers that do not. -/
theorem FnC.packed {α β γ : Type} {σ : α → Res} {τ : γ → β → Res} {Ψ : Value → HV → γ → Prop} (a0 : α) (h : ∀ a, FnC P f args V (σ a) (fun v V' σ' => ∃ g b, σ' = τ g b ∧ Ψ v V' g)) : FnC P f args V [PkE σ] (fun v V' σ' => ∃ g, σ' = [PkE (τ g)] ∧ Ψ v V' g) := by
  refine ⟨(h a0).ok, fun w0 hs0 h1 h2 h3 h4 => ?_⟩
  match hs0, h1, h2, h4 with
  | [x], h1, h2, h4 =>
    obtain ⟨a, ks, k1, k2, rfl⟩ := h1.1
    have hx := h4 _ (List.mem_cons_self ..)
    refine ((h a).run w0 ks k1 k2 h3 fun y hy => ⟨(sub_joinL k2 y hy).trans hx.1, fun b => (hx.2 b).imp (fun z => joinL_none.1 z y hy) id⟩).mono ?_
    rintro e w' ⟨v, V', σ', he, ⟨g, b, rfl, hψ⟩, hm⟩
    refine ⟨v, V', _, he, ⟨g, rfl, hψ⟩, ?_⟩
    rw [dom_one]
    exact Mem.exI (a := b) (Mem.pack (τ := []) (by rw [List.append_nil]; exact hm))
theorem pk_nil_dom (ks : List HV) : dom (ks ++ [joinL []]) = dom ks := by
  funext b
  apply propext
  constructor
  · rintro ⟨h, hm, hne⟩
    rcases List.mem_append.1 hm with q | q
    · exact ⟨h, q, hne⟩
    · rw [List.mem_singleton.1 q] at hne; exact absurd rfl hne
  · rintro ⟨h, hm, hne⟩
    exact ⟨h, List.mem_append_left _ hm, hne⟩
/-- A state of nothing. -/
theorem FnC.pk_in {Φ : Value → HV → Res → Prop} (h : FnC P f args V [] Φ) : FnC P f args V [Pk []] (fun v V' σ' => σ' = [Pk []] ∧ ∃ σ1, Φ v V' σ1) := by
  refine ⟨h.ok, fun w0 hs0 h1 h2 h3 h4 => ?_⟩
  match hs0, h1, h2, h4 with
  | [x], h1, h2, h4 =>
    obtain ⟨ks, k1, k2, rfl⟩ := h1.1
    match ks, k1 with
    | [], _ =>
    refine (h.run w0 [] trivial .nil h3 fun y hy => by cases hy).mono ?_
    rintro e w' ⟨v, V', σ', he, hφ, hm⟩
    refine ⟨v, V', _, he, ⟨rfl, σ', hφ⟩, ?_⟩
    rw [dom_one]
    exact Mem.pack (σ := []) (τ := []) (hm.drop (σq := []) (.refl _))
theorem FnC.pk_out {σ : Res} {Φ : Value → HV → Res → Prop} (h : FnC P f args V (σ ++ [Pk []]) (fun v V' σ' => ∃ σ1, σ' = σ1 ++ [Pk []] ∧ Φ v V' σ1)) : FnC P f args V σ Φ := by
  refine ⟨h.ok, fun w0 hs0 h1 h2 h3 h4 => ?_⟩
  refine (h.run w0 (hs0 ++ [joinL []]) (h1.append ⟨⟨[], trivial, .nil, rfl⟩, trivial⟩) (List.pairwise_append.2 ⟨h2, by simp, fun a _ b hb c => .inr (by rw [List.mem_singleton.1 hb]; rfl)⟩) h3 fun y hy => ?_).mono ?_
  · rcases List.mem_append.1 hy with q | q
    · exact h4 y q
    · rw [List.mem_singleton.1 q]; exact ⟨fun b o z => (by cases z), fun b => Or.inl rfl⟩
  · rintro e w' ⟨v, V', σ', he, ⟨σ1, rfl, hφ⟩, hm⟩
    rw [pk_nil_dom] at hm
    have hm := (hm.perm (List.perm_append_comm (l₁ := σ1))).unpack
    exact ⟨v, V', σ1, he, hφ, hm⟩
end
end Go.Vc

namespace Go.Proofs.Ytkmhjcjpohpiaaa
open Go Go.RowKit Go.Shelf Go.Proofs
attribute [local go_sem] Oper.semAt_some
/-- What has come when k rounds are over. -/
def upto {α : Type} (f : Nat → α) (k : Nat) : List α := (List.range k).map f
theorem upto_succ {α : Type} (f : Nat → α) (k : Nat) : upto f (k + 1) = upto f k ++ [f k] := by simp [upto, List.range_succ]
theorem upto_length {α : Type} (f : Nat → α) (k : Nat) : (upto f k).length = k := by simp [upto]
theorem upto_all {α : Type} (d : α) (zs : List α) : upto (fun j => zs[j]?.getD d) zs.length = zs := by
  apply List.ext_getElem
  · simp [upto]
  · intro i h1 h2
    simp [upto, h2]
theorem upto_take {α : Type} (d : α) (zs : List α) {k : Nat} (hk : k ≤ zs.length) : upto (fun j => zs[j]?.getD d) k = zs.take k := by
  apply List.ext_getElem
  · simp [upto, hk]
  · intro i h1 h2
    have : i < zs.length := by simp [upto] at h1; omega
    simp [upto, this]
abbrev p2a (x : P2) : Value := .agg #[.int .i64 x.a, .int .i64 x.b]
set_option maxRecDepth 100000 in
set_option maxHeartbeats 2000000 in
theorem values1_in (F : Fence) (n : Nat) (h7 : F.fn 105) (hro : F.round = none) (hn : 1 ≤ n) (l Bs n₀ b off len cap : Nat) (zs : List P2) (hreach : len * 16 ≤ 140737488351232) (hb : b < n₀) (J Jx : List P2 → World → Prop) (W : World) (hnW : n₀ ≤ W.heap.size) (hab : AbidesFrom W.heap.size J)
    (hY : ∀ pre x W, J pre W → pre.length < len → YieldAt F (n - 1) Try.prog l #[p2a x] W fun e W' =>
      (e = .returned (.bool true) ∧ J (pre ++ [x]) W' ∧ Below n₀ W W') ∨ (e = .returned (.bool false) ∧ Jx (pre ++ [x]) W'))
    (hBs : W.cell? ⟨Bs, 0, none⟩ = some (.slice (some ⟨b, off, none⟩) len cap)) (hc : ∀ j, j < len → W.cell? ⟨b, off + j * 2, none⟩ = some (.int .i64 (zs[j]?.getD (⟨0, 0⟩ : P2)).a) ∧ W.cell? ⟨b, off + j * 2 + 1, none⟩ = some (.int .i64 (zs[j]?.getD (⟨0, 0⟩ : P2)).b)) (h0 : J [] W) :
    CallsIn F n Try.prog 105 #[.func (.yield l) #[] #[], .pointer (some ⟨Bs, 0, none⟩)] W fun e W' => (∃ v, e = .returned v) ∧
      ((∃ ys, ys = upto (fun j => zs[j]?.getD (⟨0, 0⟩ : P2)) len ∧ J ys W') ∨ (∃ pre, (∃ k, k ≤ len ∧ pre = upto (fun j => zs[j]?.getD (⟨0, 0⟩ : P2)) k) ∧ Jx pre W')) := by
  refine callsIn_of_wp Try.func105 rfl h7 ?_ hro
  simp only [Try.ntmps105, List.size_toArray, List.length_cons, List.length_nil, Nat.reduceAdd, Nat.reduceSub, Array.replicate_succ, Array.replicate_zero, List.push_toArray, List.append_toArray, List.nil_append, List.cons_append]
  gi_wp2
  gi_loopw [7] (fun i wr => ∃ k : Nat, k ≤ len ∧ i = .int .i64 k ∧ J (upto (fun j => zs[j]?.getD (⟨0, 0⟩ : P2)) k) wr ∧ Below n₀ W wr)
    (fun i _ => len - (intOf i).toNat)
  case atStart => exact ⟨0, Nat.zero_le _, rfl, h0, Below.refl _ _⟩
  case round =>
    obtain ⟨k, hk, rfl, hJs, hnx⟩ := hrel
    by_cases hlt : k < len
    · have hc1 := (hnx.cell (p := ⟨b, off + k * 2, none⟩) hb).trans (hc k hlt).1
      have hc2 := (hnx.cell (p := ⟨b, off + k * 2 + 1, none⟩) hb).trans (hc k hlt).2
      obtain ⟨o, ho⟩ : ∃ o : Obj, o = .cells #[.int .i64 (zs[k]?.getD (⟨0, 0⟩ : P2)).a, .int .i64 (zs[k]?.getD (⟨0, 0⟩ : P2)).b] 51 := ⟨_, rfl⟩
      have hJ2 : J (upto (fun j => zs[j]?.getD (⟨0, 0⟩ : P2)) k) (wr.alloc o) := hab _ wr _ none hJs (World.grownBy_alloc wr o none) (fun r e => by cases e)
      obtain ⟨fn, tmps, assign, body, hy, hR⟩ := hY _ (zs[k]?.getD (⟨0, 0⟩ : P2)) (wr.alloc o) hJ2 (by rw [upto_length]; exact hlt)
      rw [ho] at hy hR
      have hnx2 : Below n₀ W (wr.alloc o) := hnx.alloc (by have := hnx.size; omega) o
      rw [ho] at hnx2
      gi_wp2
      refine hR.mono ?_
      rintro e W3 (⟨rfl, hJ3, hk3⟩ | ⟨rfl, hJx3⟩)
      · gi_wp2
        go_roundw
        case rel => exact ⟨k + 1, by omega, by simp, by rw [upto_succ]; exact hJ3, hnx2.trans hk3⟩
        case measure => simp [intOf]; omega
      · gi_wp2
        refine bodyPost_ret (results_none rfl _ _ _) rfl ?_
        exact ⟨⟨_, rfl⟩, .inr ⟨_, ⟨k + 1, by omega, (upto_succ _ _).symm⟩, hJx3⟩⟩
    · obtain rfl : k = len := by omega
      gi_wp2
      go_end0
      exact ⟨⟨_, rfl⟩, .inl ⟨_, rfl, hJs⟩⟩
/-- The slice value sv holds the pairs zs, in a block below n₀; or there are none. -/
def IntsW (n₀ : Nat) (W : World) (sv : Value) (zs : List P2) : Prop :=
  (∃ a cap, sv = .slice a 0 cap ∧ zs = []) ∨ ∃ b off cap, sv = .slice (some ⟨b, off, none⟩) zs.length cap ∧ b < n₀ ∧ ∀ j, j < zs.length → W.cell? ⟨b, off + j * 2, none⟩ = some (.int .i64 (zs[j]?.getD (⟨0, 0⟩ : P2)).a) ∧ W.cell? ⟨b, off + j * 2 + 1, none⟩ = some (.int .i64 (zs[j]?.getD (⟨0, 0⟩ : P2)).b)
theorem IntsW.below {n₀ : Nat} {A B : World} (h : Below n₀ A B) {sv : Value} {zs : List P2} : IntsW n₀ A sv zs → IntsW n₀ B sv zs
  | .inl e => .inl e
  | .inr ⟨b, off, cap, e, hb, hc⟩ => .inr ⟨b, off, cap, e, hb, fun j hj => ⟨(h.cell (p := ⟨b, off + j * 2, none⟩) hb).trans (hc j hj).1, (h.cell (p := ⟨b, off + j * 2 + 1, none⟩) hb).trans (hc j hj).2⟩⟩
set_option maxRecDepth 100000 in
set_option maxHeartbeats 1000000 in
theorem values1_nil_in (F : Fence) (n : Nat) (h7 : F.fn 105) (hro : F.round = none) (l Bs cap : Nat) (p : Option Addr) (J : List P2 → World → Prop) (W : World) (hBs : W.cell? ⟨Bs, 0, none⟩ = some (.slice p 0 cap)) (h0 : J [] W) :
    CallsIn F n Try.prog 105 #[.func (.yield l) #[] #[], .pointer (some ⟨Bs, 0, none⟩)] W fun e W' => (∃ v, e = .returned v) ∧ J [] W' := by
  refine callsIn_of_wp Try.func105 rfl h7 ?_ hro
  simp only [Try.ntmps105, List.size_toArray, List.length_cons, List.length_nil, Nat.reduceAdd, Nat.reduceSub, Array.replicate_succ, Array.replicate_zero, List.push_toArray, List.append_toArray, List.nil_append, List.cons_append]
  gi_wp2
  gi_loopw [7] (fun i wr => i = .int .i64 0 ∧ J [] wr) (fun _ _ => 0)
  case atStart => exact ⟨rfl, h0⟩
  case round =>
    obtain ⟨rfl, hJs⟩ := hrel
    gi_wp2
    go_end0
    exact ⟨⟨_, rfl⟩, hJs⟩
theorem values_stops (F : Fence) (n : Nat) (h7 : F.fn 105) (hro : F.round = none) (hn : 1 ≤ n) (Bs n₀ : Nat) (sv : Value) (zs : List P2) (hreach : zs.length * 16 ≤ 140737488351232) (w : World) (hBs : Bs < w.heap.size) (hn₀ : n₀ ≤ w.heap.size)
    (hc : w.cell? ⟨Bs, 0, none⟩ = some sv) (hI : IntsW n₀ w sv zs) :
    SeqStopsK F n Try.prog 105 #[.pointer (some ⟨Bs, 0, none⟩)] (fun x : P2 => #[p2a x]) (Below n₀) (fun ys => ys = zs) (fun pre => pre <+: zs) zs.length w := fun l J Jx W hW ha _ hY h0 => by
  have hc' := (hW.cell (p := ⟨Bs, 0, none⟩) hBs).trans hc
  rcases hI.below (hW.mono hn₀) with ⟨a, cap, rfl, rfl⟩ | ⟨b, off, cap, rfl, hb, hcs⟩
  · exact (values1_nil_in F n h7 hro l Bs cap a J W hc' h0).mono fun e W' ⟨he, hj⟩ => ⟨he, .inl ⟨_, rfl, hj⟩⟩
  · refine (values1_in F n h7 hro hn l Bs n₀ b off zs.length cap zs hreach hb J Jx W (Nat.le_trans hn₀ hW.size) ha hY hc' hcs h0).mono ?_
    rintro e W' ⟨he, ⟨ys, rfl, hj⟩ | ⟨pre, ⟨k, hk, rfl⟩, hj⟩⟩
    · exact ⟨he, .inl ⟨_, upto_all (⟨0, 0⟩ : P2) zs, hj⟩⟩
    · exact ⟨he, .inr ⟨_, by rw [upto_take (⟨0, 0⟩ : P2) zs hk]; exact List.take_prefix _ _, hj⟩⟩
theorem infoI : (Try.prog.info? 51).map (fun i => (i.zero, i.size, i.bytes)) = some (some (.agg #[.int .i64 0, .int .i64 0]), 2, 16) := by kernel_rfl
/-- A pair in a block of its own. -/
def Boxed2 (W : World) (B : Nat) (x : P2) : Prop := W.heap[B]? = some (.cells #[.int .i64 x.a, .int .i64 x.b] 51 (0, 0))
theorem Boxed2.cells {W : World} {B : Nat} {x : P2} (h : Boxed2 W B x) : W.cell? ⟨B, 0, none⟩ = some (.int .i64 x.a) ∧ W.cell? ⟨B, 1, none⟩ = some (.int .i64 x.b) := by
  unfold Boxed2 at h
  simp [World.cell?, h]
theorem Boxed2.kept {W W' : World} {B : Nat} {x : P2} {row : Option Nat} {n₀ : Nat} (h : Boxed2 W B x) (hg : W.grownBy W' row) (hr : ∀ r, row = some r → n₀ ≤ r ∧ ∃ o : Obj, W.heap[r]? = some o ∧ o.isCells = false) : Boxed2 W' B x := by
  have hlt : B < W.heap.size := (Array.getElem?_eq_some_iff.1 h).1
  refine (hg.block B hlt fun e => ?_).trans h
  obtain ⟨_, o, ho, hc⟩ := hr B e.symm
  have h : W.heap[B]? = _ := h
  rw [h] at ho
  cases ho
  cases hc
theorem cell_two_new (w : World) (x y : Value) (t : TypeId) : ∀ j u, [x, y][j]? = some u → (w.alloc (.cells #[x, y] t)).cell? ((⟨w.heap.size, 0, none⟩ : Addr).add j) = some u := by
  intro j u hj
  have h := World.alloc_heap_new w (.cells #[x, y] t)
  match j, hj with
  | 0, hj =>
    have hj : x = u := by simpa using hj
    subst hj
    show (w.alloc (.cells #[x, y] t)).cell? ⟨w.heap.size, 0, none⟩ = some x
    unfold World.cell?
    simp only [h]
    rfl
  | 1, hj =>
    have hj : y = u := by simpa using hj
    subst hj
    show (w.alloc (.cells #[x, y] t)).cell? ⟨w.heap.size, 1, none⟩ = some y
    unfold World.cell?
    simp only [h]
    rfl
set_option maxRecDepth 100000 in
set_option maxHeartbeats 2000000 in
theorem app_in (F : Fence) (n : Nat) (h4 : F.fn 131) (h5 : F.fn 105) (hro : F.round = none) (hn : 3 ≤ n) (Bs : Nat) (sv : Value) (xs : List P2) (hlen : xs.length ≤ maxLen) (hbytes : xs.length * 16 ≤ 140737488351232) (w : World) (hBs : Bs < w.heap.size) (hc : w.cell? ⟨Bs, 0, none⟩ = some sv) (hL : IntsW w.heap.size w sv xs) :
    CallsIn F n Try.prog 131 #[.slice none 0 0, .func (.func 105) #[] #[.pointer (some ⟨Bs, 0, none⟩)]] w fun e W' => ∃ v, e = .returned v ∧ W'.ownsRow w.heap.size 51 2 v xs.length (p2s xs) ∧ Below w.heap.size w W' := by
  have h1 : 1 ≤ n := by omega
  obtain ⟨i0, hi, hz0, hz1, hz2⟩ := info_parts infoI
  refine callsIn_of_wp_marks Try.func131 rfl h4 ?_ hro
  simp only [Try.ntmps131, List.size_toArray, List.length_cons, List.length_nil, Nat.reduceAdd, Nat.reduceSub, Array.replicate_succ, Array.replicate_zero, List.push_toArray, List.append_toArray, List.nil_append, List.cons_append]
  gi_wp2
  have bO := Boxed.new w 47 (.slice none 0 0)
  have hB0 : Below w.heap.size w (w.alloc (.cells #[.slice none 0 0] 47)) := (Below.refl _ w).alloc (Nat.le_refl _) _
  refine wpIn_rangeFunc_ownH hro h1 (gf := 105) (lb := #[.pointer (some ⟨Bs, 0, none⟩)]) rfl h5 (enters_of Try.func105 (by kernel_rfl) rfl)
    (values_stops F (n - 1) h5 hro (by omega) Bs w.heap.size sv xs hbytes _ (by simp; omega) (by simp) ((hB0.cell (p := ⟨Bs, 0, none⟩) hBs).trans hc) (hL.below hB0)) belowK_t (belowK_b (by simp)) (Below.refl _ _) (fun _ => rfl)
    (fun pre W => (∃ v, Boxed W w.heap.size 47 v ∧ W.ownsRow w.heap.size 51 2 v pre.length (p2s pre) ∧ True) ∧ Below w.heap.size w W)
    (fun _ _ _ => False)
    (OwnFrom.and (Own.from (holdsRow_own w.heap.size w.heap.size 47 51 2 (fun pre : List P2 => pre.length) (fun pre : List P2 => p2s pre) (fun _ _ => True)) _) (ownFrom_below (Nat.le_refl _) (by simp)))
    (fun _ _ _ _ _ hs _ _ => hs)
    ⟨⟨_, bO, World.ownsRow_nil _ _ _ _, trivial⟩, hB0⟩
    (fun x a' W => ∃ Bx, w.heap.size < Bx ∧ Boxed2 W Bx x ∧ a' = { tmps := #[.slice none 0 0, .func (.func 105) #[] #[.pointer (some ⟨Bs, 0, none⟩)], .pointer (some ⟨w.heap.size, 0, none⟩), undef, .slice none 0 0, .pointer (some ⟨Bx, 0, none⟩), .func (.func 105) #[] #[.pointer (some ⟨Bs, 0, none⟩)], p2a x, undef, undef, undef, undef, undef], defers := [] })
    (fun x a' s A B row hs hg hr => by
      obtain ⟨Bx, q1, q2, q3⟩ := hs
      exact ⟨Bx, q1, q2.kept hg hr, q3⟩) ?assign ?body ?done ?stop
  case assign =>
    intro l pre x W K hI hK
    gi_wp2
    obtain ⟨⟨v, hv, hrow, -⟩, hB⟩ := hI
    exact hK _ _ (KeepsFrom.of_grownBy (World.grownBy_alloc W _ none) (fun j e => by cases e)) ((Below.refl _ W).alloc hB.size _) ⟨⟨v, hv.alloc _, hrow.alloc _, trivial⟩, hB.alloc hB.size _⟩ ⟨_, hv.lt, World.alloc_heap_new W _, rfl⟩
  case body =>
    rintro l pre x a' W _ _ ⟨⟨v, hv, hrow, -⟩, hB⟩ ⟨Bx, q1, q2, rfl⟩ hlt
    have hc := hv.cell
    have hx1 := q2.cells.1
    have hx2 := q2.cells.2
    gi_wp2_with (gi_at_builtin; refine wpListIn_append_own _ rfl _ _ 47 rfl w.heap.size 51 i0 _ 2 16 Try.underlying47 hi hz0 hz1 hz2 rfl (by decide) _ _ _ rfl (hrow.alloc _) ⟨W.heap.size, 0, none⟩ 1 1 [.int .i64 x.a, .int .i64 x.b] rfl rfl (cell_two_new _ _ _ _) (by simp [Value.oneCell']) (by omega) (by omega) (by have := hB.size; simp; omega) ?_; intro v' w1 hown' hgrow _; obtain ⟨g', cap', rfl⟩ := ownsRow_succ hown'; obtain ⟨hv1, hv2, hr2, hk2, hb2⟩ := hv.appended (by decide) hrow hB.size (Nat.le_refl _) hown' hgrow; have hc1 := hv1.cell; have hf1 := hv1.frozen)
    exact ⟨hk2.from _, hb2, ⟨_, hv2, by rw [List.length_append, p2s_snoc]; exact hr2, trivial⟩, hB.trans hb2⟩
  case done =>
    rintro D ys W hD rfl ⟨⟨v, hv, hrow, -⟩, hB⟩ hK
    have hc := hv.cell
    gi_wp2
    refine ⟨by simp, .inl ⟨_, _, rfl, run_takeDeferred hK, ?_⟩⟩
    exact ⟨_, results_tmp rfl _ _ _, v, rfl, ownsRow_putObj hrow _ hK rfl, hB.trans (belowK_b (w := w) (Nat.le_refl _) W D _ _ (by simp at hD; omega) hK rfl rfl)⟩
  case stop =>
    rintro D c pre W _ _ h _
    exact h.elim
end Go.Proofs.Ytkmhjcjpohpiaaa

namespace Go.Proofs.Ytkmhjcjpohpiaaa
open Go Go.RowKit Go.Shelf Go.Proofs Go.Lib Go.Sort Go.Vc
/-- Pairs of numbers that are no leaves out of range. -/
abbrev Pr := {p : P2 // inR p.a ∧ inR p.b}
instance instPr : Inhabited Pr := ⟨⟨⟨0, 0⟩, ⟨by decide, by decide⟩, by decide, by decide⟩⟩
def cmpP (x y : P2) : Int := if x.a ≠ y.a then x.a - y.a else x.b - y.b
set_option maxRecDepth 100000 in
set_option maxHeartbeats 600000 in
theorem cmpP_calls (x y : Pr) (W : World) : Calls Try.prog 70 #[p2a x.1, p2a y.1] W fun e w' => e = .returned (.int .i64 (cmpP x.1 y.1)) ∧ ∃ q os', w' = grow (W.drewN q) os' := by
  obtain ⟨⟨x1, x2⟩, hx⟩ := x
  obtain ⟨⟨y1, y2⟩, hy⟩ := y
  obtain ⟨⟨a1, a2⟩, a3, a4⟩ := hx
  obtain ⟨⟨b1, b2⟩, b3, b4⟩ := hy
  have w1 : wrap64 (x1 - y1) = x1 - y1 := (by unfold wrap64; dsimp only at *; omega)
  have w2 : wrap64 (x2 - y2) = x2 - y2 := (by unfold wrap64; dsimp only at *; omega)
  dsimp only at *
  go_enter Try.func70, Try.ntmps70
  go_wp2
  · rename_i h
    go_ret
    have h : x1 ≠ y1 := by simpa using h
    exact ⟨by unfold cmpP; rw [if_pos h]; rfl, 0, _, by rw [alloc_eq_grow, alloc_eq_grow, grow_grow]; rfl⟩
  · rename_i h
    go_ret
    have h : x1 = y1 := by simpa using h
    exact ⟨by unfold cmpP; rw [if_neg (fun q => q h)]; rfl, 0, _, by rw [alloc_eq_grow, alloc_eq_grow, grow_grow]; rfl⟩
/-- The order of pairs. -/
def PLt (x y : P2) : Prop := x.a < y.a ∨ (x.a = y.a ∧ x.b < y.b)
theorem cmpP_lt {x y : P2} : cmpP x y < 0 ↔ PLt x y := by
  unfold cmpP PLt
  by_cases h : x.a = y.a
  · rw [if_neg (fun q => q h)]; omega
  · rw [if_pos h]; omega
abbrev cfP (x y : Pr) : Int := cmpP x.1 y.1
theorem cfP_lt {x y : Pr} : ltOf cfP x y = true ↔ PLt x.1 y.1 := by
  unfold ltOf; rw [decide_eq_true_eq]; exact cmpP_lt
theorem cfP_not {x y : Pr} : ltOf cfP x y = false ↔ ¬ PLt x.1 y.1 := by
  rw [← cfP_lt]; cases ltOf cfP x y <;> simp
theorem swoP : SWO (ltOf cfP) where
  irrefl x := by rw [cfP_not]; unfold PLt; omega
  trans x y z h1 h2 := by rw [cfP_lt] at *; unfold PLt at *; omega
  ntrans x y z h1 h2 := by rw [cfP_not] at *; unfold PLt at *; omega
abbrev vals2 (T : List Pr) : List P2 := T.map (·.1)
theorem flat_p2 (T : List Pr) : T.flatMap (fun x => p2c x.1) = p2s (vals2 T) := by unfold p2s vals2; rw [List.flatMap_map]
theorem SortP_c {V : HV} {v : Value} {T : List Pr} (h : T.length < 4611686018427387904) :
    FnC Try.prog 104 [v, .func (.func 70) #[] #[]] V [Gr 51 2 v T.length (p2s (vals2 T))] (fun u V' σ' => u = .tuple #[] ∧ V' = V ∧ ∃ T' : List Pr, T'.Perm T ∧ (∀ i j : Nat, i < j → j < T'.length → ¬ PLt (T'[j]!).1 (T'[i]!).1) ∧ σ' = [Gr 51 2 v T.length (p2s (vals2 T'))]) := by
  rw [← flat_p2]
  refine (FnC.sortK (P := Try.prog) (ρ := Try.laysSlPair_ren) Try.laysSlPair (enc := fun x : Pr => p2c x.1) (k := 2) (E := 51) (fun w => by
      show (isAgg 51).run Try.prog w = _
      simp [isAgg, run_underlying Try.underlying51]) (fun w => Go.Vc.run_sizeOf Try.size51 w) (fun _ => rfl) (fun x v hv => by
      simp [p2c] at hv; rcases hv with rfl | rfl <;> rfl) cfP swoP 70 (enters_of Try.func70 (by kernel_rfl) rfl) (fun blk off size w m os dk _ x y => cmpP_calls x y _)
      ⟨_, Try.func104, by rfl, by rfl⟩ h).mono fun u V' σ' _ hh => ?_
  obtain ⟨a, b, T', c, d, e⟩ := hh
  exact ⟨a, b, T', c, fun i j hij hj => cfP_not.1 (d i j hij hj), by rw [e, flat_p2]⟩
/-- What one has laid anew is one's own. -/
theorem mem_fresh {V : HV} {w0 w' : World} {E : TypeId} {s n : Nat} {v : Value} {xs : List Value} (h3 : Vc.Sub V (hv w0)) (hr : w'.ownsRow w0.heap.size E s v n xs) (hb : Ext w0 w') : Mem ⟨w0, V, dom []⟩ V [Gr E s v n xs] w' := by
  have m0 : Mem ⟨w0, V, dom []⟩ V [] w0 := Vc.mem_start trivial List.Pairwise.nil h3 (fun h hh => by cases hh)
  have m := m0.ext hb
  obtain ⟨hl, hr⟩ := hr
  rcases hr with ⟨rfl, hn⟩ | ⟨g, cap, cur, rfl, hbase, hg, r1, r2, r3, r4⟩
  · refine ⟨m.os, m.tape, m.output, m.size, m.frame, m.sub, m.view, m.vold, [fun _ => none], ⟨⟨hl, .inl ⟨rfl, hn, rfl⟩⟩, trivial⟩, List.pairwise_singleton _ _, fun h hh => ?_⟩
    rw [List.mem_singleton.1 hh]
    refine ⟨?_, fun b => Or.inl rfl, fun b _ hne => absurd rfl hne⟩
    intro b o e
    exact absurd e (by simp)
  · refine ⟨m.os, m.tape, m.output, m.size, m.frame, m.sub, m.view, m.vold, [Vc.one g (.cells cur E (0, 0))], ⟨⟨hl, .inr ⟨g, cap, cur, rfl, rfl, r1, r2, r3, r4⟩⟩, trivial⟩, List.pairwise_singleton _ _, fun h hh => ?_⟩
    rw [List.mem_singleton.1 hh]
    refine ⟨fun b o e => ?_, fun b => ?_, fun b hlt hne => ?_⟩
    · unfold Vc.one at e
      split at e
      · rename_i q; subst q; cases e; exact hg
      · cases e
    · by_cases q : b = g
      · subst q
        right
        cases e : V b with
        | none => rfl
        | some o => have := hv_lt (h3 b o e); omega
      · left; unfold Vc.one; rw [if_neg q]
    · unfold Vc.one at hne
      split at hne
      · rename_i q; subst q; have : b < w0.heap.size := hlt; omega
      · exact absurd rfl hne
theorem App_c {V : HV} {sv : Value} {xs : List P2} {Bs : Nat} (hc : Cells V Bs [sv]) (hx : P2s V sv xs) (hlen : xs.length ≤ 1000000) :
    FnC Try.prog 131 [.slice none 0 0, .func (.func 105) #[] #[.pointer (some ⟨Bs, 0, none⟩)]] V [] (fun v V' σ' => V' = V ∧ σ' = [Gr 51 2 v xs.length (p2s xs)]) := by
  refine ⟨⟨_, Try.func131, by rfl, by rfl⟩, fun w0 hs0 h1 h2 h3 h4 => ?_⟩
  obtain rfl : hs0 = [] := by cases hs0 with | nil => rfl | cons a l => exact h1.elim
  obtain ⟨Tc, fz, hc⟩ := hc
  have hcb := h3 _ _ hc
  have hI : IntsW w0.heap.size w0 sv xs := by
    obtain ⟨a, cap, rfl, q1, q2, q0, q3⟩ := hx
    by_cases hz : xs.length = 0
    · have hz := List.eq_nil_of_length_eq_zero hz
      subst hz; exact .inl ⟨a, cap, rfl, rfl⟩
    · obtain ⟨b, off, cs, T, fz2, rfl, e2, e3⟩ := q3 hz
      have hb : w0.heap[b]? = some (.cells cs T fz2) := h3 _ _ e2
      refine .inr ⟨b, off, cap, rfl, hv_lt (w := w0) hb, fun j hj => ?_⟩
      have g := p2s_get xs j hj
      have c0 := congrArg (fun l => l[0]?) g
      have c1 := congrArg (fun l => l[1]?) g
      simp only [List.getElem?_take, List.getElem?_drop] at c0 c1
      rw [if_pos (by omega)] at c0 c1
      have d0 := e3 (j * 2 + 0) (by omega)
      have d1 := e3 (j * 2 + 1) (by omega)
      rw [c0] at d0
      rw [c1] at d1
      have e : xs[j]?.getD ⟨0, 0⟩ = xs.getD j ⟨0, 0⟩ := (List.getD_eq_getElem?_getD ..).symm
      rw [e]
      constructor
      · simp only [World.cell?, hb]
        exact d0
      · simp only [World.cell?, hb]
        exact d1
  refine ((callsIn_wide (n := 3)).1 (app_in Fence.wide 3 trivial trivial rfl (by omega) Bs sv xs (by simp only [maxLen]; omega) (by omega) w0 (hv_lt (w := w0) hcb) (by
    have hcb : w0.heap[Bs]? = some (.cells [sv].toArray Tc fz) := hcb
    simp [World.cell?, hcb]) hI)).mono fun e w' ⟨v, he, hr, hb⟩ => ?_
  exact ⟨v, V, _, he, ⟨rfl, rfl⟩, mem_fresh h3 hr hb⟩
end Go.Proofs.Ytkmhjcjpohpiaaa

namespace Go.Proofs.Ytkmhjcjpohpiaaa
open Go Go.Vc
open Classical
/-- The first place of a pair. -/
noncomputable def px (n : P2) : List P2 → Option Nat
  | [] => none
  | a :: r => if a = n then some 0 else (px n r).map (· + 1)
theorem px_some {n : P2} : ∀ {O : List P2} {i : Nat}, px n O = some i → i < O.length ∧ O.getD i ⟨0, 0⟩ = n
  | [], _, h => by cases h
  | a :: r, i, h => by
    unfold px at h
    by_cases e : a = n
    · rw [if_pos e] at h; simp at h; subst h; exact ⟨by simp, by simpa using e⟩
    · rw [if_neg e] at h
      cases hr : px n r with
      | none => rw [hr] at h; cases h
      | some j =>
        rw [hr] at h; simp at h; subst h
        obtain ⟨h1, h2⟩ := px_some hr
        exact ⟨by simpa using h1, by simpa using h2⟩
theorem px_mem {n : P2} : ∀ {O : List P2}, n ∈ O → ∃ i, px n O = some i
  | [], h => by cases h
  | a :: r, h => by
    unfold px
    by_cases e : a = n
    · rw [if_pos e]; exact ⟨0, rfl⟩
    · rw [if_neg e]
      obtain ⟨i, hi⟩ := px_mem (List.mem_of_ne_of_mem (fun q => e q.symm) h)
      exact ⟨i + 1, by rw [hi]; rfl⟩
theorem px_snoc {n q : P2} : ∀ (M : List P2), px q (M ++ [n]) = match px q M with | some i => some i | none => if n = q then some M.length else none
  | [] => by
    show (if n = q then some 0 else (px q []).map (· + 1)) = _
    by_cases h : n = q
    · rw [if_pos h]; show some 0 = if n = q then some 0 else none; rw [if_pos h]
    · rw [if_neg h]; show none = if n = q then some 0 else none; rw [if_neg h]
  | a :: M => by
    show (if a = q then some 0 else (px q (M ++ [n])).map (· + 1)) = match (if a = q then some 0 else (px q M).map (· + 1)) with | some i => some i | none => if n = q then some (a :: M).length else none
    by_cases h : a = q
    · rw [if_pos h, if_pos h]
    · rw [if_neg h, if_neg h, px_snoc M]
      cases px q M with
      | some i => rfl
      | none =>
        show (if n = q then some M.length else none).map (· + 1) = if n = q then some (M.length + 1) else none
        by_cases h2 : n = q
        · rw [if_pos h2, if_pos h2]; rfl
        · rw [if_neg h2, if_neg h2]; rfl
theorem px_first {n : P2} : ∀ {O : List P2} {i : Nat}, px n O = some i → ∀ j : Nat, j < i → O.getD j ⟨0, 0⟩ ≠ n
  | [], _, h => by cases h
  | a :: r, i, h => by
    unfold px at h
    by_cases e : a = n
    · rw [if_pos e] at h; simp at h; subst h; exact fun j hj => by omega
    · rw [if_neg e] at h
      cases hr : px n r with
      | none => rw [hr] at h; cases h
      | some j =>
        rw [hr] at h; simp at h; subst h
        intro k hk
        cases k with
        | zero => simpa using e
        | succ k => simpa using px_first hr k (by omega)
noncomputable def pF (P : List P2) : Int × Int → Option Int := fun k => (px ⟨k.1, k.2⟩ P).map fun i : Nat => (i : Int)
theorem pF_step {M : List P2} {k : Int × Int} (h : pF M k = none) : setF (pF M) k (M.length : Int) = pF (M ++ [⟨k.1, k.2⟩]) := by
  funext q
  have hn : px ⟨k.1, k.2⟩ M = none := by unfold pF at h; simpa using h
  unfold pF
  rw [px_snoc]
  by_cases e : q = k
  · subst e; rw [setF_same, hn]; show _ = Option.map _ (if (⟨q.1, q.2⟩ : P2) = ⟨q.1, q.2⟩ then some M.length else none); rw [if_pos rfl]; rfl
  · rw [setF_other e]
    cases px ⟨q.1, q.2⟩ M with
    | some i => rfl
    | none =>
      show none = Option.map _ (if (⟨k.1, k.2⟩ : P2) = ⟨q.1, q.2⟩ then some M.length else none)
      rw [if_neg fun z => e (Prod.ext (congrArg P2.a z).symm (congrArg P2.b z).symm)]; rfl
theorem pF_some {P : List P2} {x y i : Int} (h : pF P (x, y) = some i) : (0 ≤ i ∧ i < P.length) ∧ p2 P i = ⟨x, y⟩ := by
  unfold pF at h
  cases hx : px ⟨x, y⟩ P with
  | none => rw [show px ⟨(x, y).1, (x, y).2⟩ P = none from hx] at h; cases h
  | some j =>
    rw [show px ⟨(x, y).1, (x, y).2⟩ P = some j from hx] at h
    obtain ⟨a, b⟩ := px_some hx
    have e : (j : Int) = i := Option.some.inj h
    subst e
    exact ⟨⟨by omega, by omega⟩, b⟩
theorem pF_mem {P : List P2} {x y : Int} (h : (⟨x, y⟩ : P2) ∈ P) : ∃ i, pF P (x, y) = some i := by
  obtain ⟨i, hi⟩ := px_mem h
  exact ⟨i, by unfold pF; rw [show px ⟨(x, y).1, (x, y).2⟩ P = some i from hi]; rfl⟩
theorem p2_mem {P : List P2} {i : Int} (h0 : 0 ≤ i) (h1 : i < P.length) : p2 P i ∈ P := by
  unfold p2
  rw [List.getD_eq_getElem?_getD, List.getElem?_eq_getElem (by omega)]
  exact List.getElem_mem _
theorem mem_p2 {P : List P2} {q : P2} (h : q ∈ P) : ∃ i : Int, 0 ≤ i ∧ i < P.length ∧ p2 P i = q := by
  obtain ⟨n, hn, e⟩ := List.getElem_of_mem h
  exact ⟨n, by omega, by omega, by unfold p2; rw [Int.toNat_natCast, List.getD_eq_getElem?_getD, List.getElem?_eq_getElem hn]; exact e⟩
theorem pF_bd (P : List P2) (k : Int × Int) : 0 ≤ (pF P k).getD 0 ∧ (pF P k).getD 0 ≤ P.length := by
  cases h : pF P k with
  | none => simp
  | some i =>
    have := pF_some (P := P) (x := k.1) (y := k.2) h
    show 0 ≤ i ∧ i ≤ _
    omega
/-- The place of a pair, -1 where there is none. -/
noncomputable def ixP (S : List P2) (x y : Int) : Int := (pF S (x, y)).getD (-1)
noncomputable abbrev ixF (S : List P2) : Int → Int → Int → Int := fun x y _ => ixP S x y
theorem ixP_at {S : List P2} {x y i : Int} (h0 : 0 ≤ i) (h1 : i < S.length) (h : x = (p2 S i).a ∧ y = (p2 S i).b) (hn : ∀ z : Int, 0 ≤ z → z < i → ¬ p2 S z = ⟨x, y⟩) : ixP S x y = i := by
  have he : p2 S i = ⟨x, y⟩ := by cases hq : p2 S i; rw [hq] at h; rw [h.1, h.2]
  obtain ⟨j, hj⟩ := px_mem (n := ⟨x, y⟩) (O := S) (by rw [← he]; exact p2_mem h0 h1)
  have e : ixP S x y = (j : Int) := by unfold ixP pF; rw [show px ⟨(x, y).1, (x, y).2⟩ S = some j from hj]; rfl
  rw [e]
  by_cases q : (j : Int) < i
  · exact absurd (px_some hj).2 (by have := hn j (by omega) q; unfold p2 at this; rwa [Int.toNat_natCast] at this)
  · by_cases q2 : i < (j : Int)
    · exact absurd he (px_first hj i.toNat (by omega))
    · omega
theorem ixP_none {S : List P2} {x y : Int} (h : ∀ z : Int, 0 ≤ z → z < S.length → ¬ p2 S z = ⟨x, y⟩) : ixP S x y = -1 := by
  unfold ixP
  cases e : pF S (x, y) with
  | none => rfl
  | some i =>
    have := pF_some e
    exact absurd this.2 (h i this.1.1 this.1.2)
theorem ren_done {L L1 : List Int} {i z : Int} {f : Int → Int} (h0 : 0 ≤ i) (h1 : i < L.length) (hz : z = f (gi L1 i)) (h : ∀ x : Int, 0 ≤ x → x < i → gi L x = f (gi L1 x)) : ∀ x : Int, 0 ≤ x → x < i + 1 → gi (L.set i.toNat z) x = f (gi L1 x) := fun x a b => by
  rw [gi_set h0 h1 a]
  by_cases e : x = i
  · rw [if_pos e, hz, e]
  · rw [if_neg e]; exact h x a (by omega)
theorem ren_rest {L L1 : List Int} {i z n : Int} (h0 : 0 ≤ i) (h1 : i < L.length) (h : ∀ x : Int, i ≤ x → x < n → gi L x = gi L1 x) : ∀ x : Int, i + 1 ≤ x → x < n → gi (L.set i.toNat z) x = gi L1 x := fun x a b => by
  rw [gi_set h0 h1 (by omega), if_neg (by omega)]
  exact h x (by omega) b
/-- The pairs gathered so far. -/
abbrev PSt := {T : List Pr // (vals2 T).Nodup}
def AgP (T : PSt) (F : Int → Int → Int → Int) : Prop := ∀ x y z i, pF (vals2 T.1) (x, y) = some i → F x y z = i
theorem agP_ix (T : PSt) : AgP T (ixF (vals2 T.1)) := fun x y z i h => by show (pF _ _).getD (-1) = i; rw [h]; rfl
abbrev upN (n : Nat) : List Int := (List.range n).map fun i : Nat => (i : Int)
def IvP (T : PSt) (L : List Int) : Prop := L = upN T.1.length
theorem upN_len (n : Nat) : (upN n).length = n := by simp [upN]
theorem upN_at {n : Nat} {i : Int} (h0 : 0 ≤ i) (h1 : i < n) : gi (upN n) i = i := by
  unfold gi upN
  rw [List.getD_eq_getElem?_getD, List.getElem?_map, List.getElem?_range (by omega)]
  show ((i.toNat : Nat) : Int) = i; omega
theorem upN_mem {n : Nat} {z : Int} : z ∈ upN n ↔ 0 ≤ z ∧ z < n := by
  unfold upN
  rw [List.mem_map]
  constructor
  · rintro ⟨i, hi, rfl⟩; have := List.mem_range.1 hi; omega
  · intro h; exact ⟨z.toNat, List.mem_range.2 (by omega), by omega⟩
theorem ivP_hit {T : PSt} {L : List Int} {i : Int} (h : IvP T L) (h0 : 0 ≤ i) (h1 : i < T.1.length) : IvP T (lfR L i).1 := by
  have hs : (lfF L i).isSome = true := by
    cases e : gx i L with
    | some j => unfold lfF; rw [e]; rfl
    | none =>
      have hm : i ∈ L := by rw [h]; exact upN_mem.2 ⟨h0, h1⟩
      obtain ⟨j, hj, ej⟩ := pos_of_getD hm
      exact absurd ej (by have := gx_none e j hj; unfold gi; rw [Int.toNat_natCast]; exact this)
  rw [lf_hit hs]; exact h
theorem ivP_new {T T' : PSt} {L : List Int} (h : IvP T L) (hl : T'.1.length = T.1.length + 1) : IvP T' (lfR L T.1.length).1 := by
  have hs : ¬ (lfF L T.1.length).isSome = true := fun q => by
    obtain ⟨j, hj⟩ := Option.isSome_iff_exists.1 q
    unfold lfF at hj
    cases e : gx (T.1.length : Int) L with
    | none => rw [e] at hj; cases hj
    | some m =>
      obtain ⟨a, b, _⟩ := gx_some e
      have hm : gi L m ∈ L := gi_mem (by omega) (by omega)
      rw [h] at hm
      have := upN_mem.1 hm
      have b2 : gi L m = T.1.length := by unfold gi; rw [Int.toNat_natCast]; exact b
      rw [h] at b2
      omega
  rw [(lf_new hs).2]
  show L ++ [(T.1.length : Int)] = upN T'.1.length
  rw [hl, h]
  unfold upN
  rw [List.range_succ, List.map_append]; rfl
/-- One more pair. -/
def addP (T : PSt) (x y : Int) (hx : inR x) (hy : inR y) (hn : pF (vals2 T.1) (x, y) = none) : PSt := ⟨T.1 ++ [⟨⟨x, y⟩, hx, hy⟩], by
  unfold vals2
  rw [List.map_append, List.nodup_append]
  refine ⟨T.2, by simp, fun a ha b hb e => ?_⟩
  have hb : b = ⟨x, y⟩ := by simpa using hb
  rw [e, hb] at ha
  obtain ⟨i, hi⟩ := pF_mem ha
  rw [hi] at hn; cases hn⟩
theorem addP_vals {T : PSt} {x y : Int} {hx : inR x} {hy : inR y} {hn : pF (vals2 T.1) (x, y) = none} : vals2 (addP T x y hx hy hn).1 = vals2 T.1 ++ [⟨x, y⟩] := by
  show (T.1 ++ [_]).map _ = _
  rw [List.map_append]; rfl
theorem addP_pF {T : PSt} {x y : Int} {hx : inR x} {hy : inR y} {hn : pF (vals2 T.1) (x, y) = none} : pF (vals2 (addP T x y hx hy hn).1) = setF (pF (vals2 T.1)) (x, y) (T.1.length : Int) := by
  rw [addP_vals, ← pF_step hn]
  unfold vals2; rw [List.length_map]
theorem addP_nx {T : PSt} {x y : Int} {hx : inR x} {hy : inR y} {hn : pF (vals2 T.1) (x, y) = none} {F : Int → Int → Int → Int} (h : AgP (addP T x y hx hy hn) F) : AgP T F ∧ ∀ z, F x y z = T.1.length := by
  unfold AgP at h
  rw [addP_pF] at h
  refine ⟨fun a b z i e => h a b z i ?_, fun z => h x y z _ setF_same⟩
  by_cases q : (a, b) = (x, y)
  · rw [q, hn] at e; cases e
  · rw [setF_other q]; exact e
theorem plt_tri (x y : P2) : PLt x y ∨ x = y ∨ PLt y x := by
  unfold PLt
  by_cases h : x = y
  · exact .inr (.inl h)
  · have : x.a ≠ y.a ∨ x.b ≠ y.b := by
      by_cases q : x.a = y.a
      · right; intro r; exact h (by cases x; cases y; simp at q r; rw [q, r])
      · exact .inl q
    omega
/-- The pairs of values, in order. -/
structure PSet (A B : Mg) (S : List P2) : Prop where
  ord : S.Pairwise PLt
  mem : ∀ q, q ∈ S ↔ ∃ e, q = ⟨vl A e, vl B e⟩
theorem sorted_of {T' : List Pr} (hn : (vals2 T').Nodup) (hs : ∀ i j : Nat, i < j → j < T'.length → ¬ PLt (T'[j]!).1 (T'[i]!).1) : (vals2 T').Pairwise PLt := by
  rw [List.pairwise_iff_getElem]
  intro i j hi hj hij
  have hi' : i < T'.length := by simpa using hi
  have hj' : j < T'.length := by simpa using hj
  have h := hs i j hij hj'
  rw [getElem!_pos T' i hi', getElem!_pos T' j hj'] at h
  have ei : (vals2 T')[i] = (T'[i]).1 := by simp [vals2]
  have ej : (vals2 T')[j] = (T'[j]).1 := by simp [vals2]
  rw [ei, ej]
  have hne : (T'[i]).1 ≠ (T'[j]).1 := by
    have := (List.pairwise_iff_getElem.1 hn) i j hi hj hij
    rwa [ei, ej] at this
  rcases plt_tri (T'[i]).1 (T'[j]).1 with q | q | q
  · exact q
  · exact absurd q hne
  · exact absurd q h
theorem len_sub {β : Type} : ∀ {l m : List β}, l.Nodup → (∀ x ∈ l, x ∈ m) → l.length ≤ m.length
  | [], _, _, _ => Nat.zero_le _
  | a :: l, m, hn, h => by
    have hn := List.nodup_cons.1 hn
    have ha := h a (List.mem_cons_self ..)
    have ih := len_sub (l := l) (m := m.erase a) hn.2 fun x hx => (List.mem_erase_of_ne (fun e => hn.1 (by rw [← e]; exact hx))).2 (h x (List.mem_cons_of_mem _ hx))
    have := List.length_erase_of_mem ha
    have := List.length_pos_of_mem ha
    show l.length + 1 ≤ _
    omega
/-- The pairs gathered are the pairs of values. -/
theorem pair_mem {A B : Mg} {L : List Int} {M : List Fk} {T : PSt} {p : Int} (hI : IvP T L) (b : BOk A.v L M) (s : Std A.v [A, B] (ixF (vals2 T.1)) L M (rt [A, B]) p) (hr : ∀ z ∈ L, z ∈ ([] : List Int) ∨ ∃ e, gF [A, B] (ixF (vals2 T.1)) (rt [A, B]) e = z) :
    (∀ e, ∃ i, pF (vals2 T.1) (vl A e, vl B e) = some i) ∧ (∀ i : Int, 0 ≤ i → i < T.1.length → ∃ e, p2 (vals2 T.1) i = ⟨vl A e, vl B e⟩ ∧ pF (vals2 T.1) (vl A e, vl B e) = some i) ∧ ∀ q, q ∈ vals2 T.1 ↔ ∃ e, q = ⟨vl A e, vl B e⟩ := by
  have gf : ∀ F e, gF [A, B] F (rt [A, B]) e = F (vl A e) (vl B e) (gev (mG (dm [A, B] 2)) e (kg (rt [A, B]) 2)) := fun _ _ => rfl
  have hlen : (vals2 T.1).length = T.1.length := by simp [vals2]
  have seen : ∀ e, ∃ i, pF (vals2 T.1) (vl A e, vl B e) = some i := fun e => by
    have hm := bok_val b s.rf e
    rw [s.val e, gf] at hm
    have hm : ixP (vals2 T.1) (vl A e) (vl B e) ∈ L := hm
    rw [hI] at hm
    have := (upN_mem.1 hm).1
    cases h : pF (vals2 T.1) (vl A e, vl B e) with
    | some i => exact ⟨i, rfl⟩
    | none => unfold ixP at this; rw [h] at this; exact absurd this (by decide)
  have all : ∀ i : Int, 0 ≤ i → i < T.1.length → ∃ e, p2 (vals2 T.1) i = ⟨vl A e, vl B e⟩ ∧ pF (vals2 T.1) (vl A e, vl B e) = some i := fun i h0 h1 => by
    obtain ⟨e, he⟩ := (hr i (by rw [hI]; exact upN_mem.2 ⟨h0, h1⟩)).resolve_left (by simp)
    rw [gf] at he
    have he : ixP (vals2 T.1) (vl A e) (vl B e) = i := he
    obtain ⟨j, hj⟩ := seen e
    unfold ixP at he
    rw [hj] at he
    have he : j = i := he
    subst he
    exact ⟨e, (pF_some hj).2, hj⟩
  refine ⟨seen, all, fun q => ⟨fun hq => ?_, ?_⟩⟩
  · obtain ⟨i, h0, h1, e⟩ := mem_p2 hq
    obtain ⟨x, hx, _⟩ := all i h0 (by omega)
    exact ⟨x, by rw [← e, hx]⟩
  · rintro ⟨e, rfl⟩
    obtain ⟨i, hi⟩ := seen e
    obtain ⟨h0, h1⟩ := pF_some hi
    rw [← h1]; exact p2_mem h0.1 h0.2
theorem pair_cnt {A B : Mg} {L : List Int} {M : List Fk} {T : PSt} {p : Int} (hA : Ok A) (hB : Ok B) (hv : A.v = B.v) (hI : IvP T L)
    (hall : ∀ F, AgP T F → BOk A.v L M ∧ Std A.v [A, B] F L M (rt [A, B]) p ∧ ∀ z ∈ L, z ∈ ([] : List Int) ∨ ∃ e, gF [A, B] F (rt [A, B]) e = z) : T.1.length ≤ 2 ^ A.v.toNat := by
  obtain ⟨b, s, hr⟩ := hall _ (agP_ix T)
  have memP := (pair_mem hI b s hr).2.2
  have hlen : (vals2 T.1).length = T.1.length := by simp [vals2]
  rw [← hlen, ← tabv_len (vars := A.v) fun e => (⟨vl A e, vl B e⟩ : P2)]
  refine len_sub T.2 fun q hq => ?_
  obtain ⟨e, rfl⟩ := (memP q).1 hq
  exact (tabv_mem hA.1.1 fun e e' h => by rw [hA.dep e e' h, hB.dep e e' (fun i a c => h i a (by omega))]).2 ⟨e, rfl⟩
/-- What the combination leaves, and what the renumbering makes of it. -/
theorem pair_fin {A B : Mg} {L : List Int} {M : List Fk} {T : PSt} {T' : List Pr} {p : Int} (hA : Ok A) (hB : Ok B) (hv : A.v = B.v) (hI : IvP T L)
    (hall : ∀ F, AgP T F → BOk A.v L M ∧ Std A.v [A, B] F L M (rt [A, B]) p ∧ ∀ z ∈ L, z ∈ ([] : List Int) ∨ ∃ e, gF [A, B] F (rt [A, B]) e = z)
    (hp : T'.Perm T.1) (hs : ∀ i j : Nat, i < j → j < T'.length → ¬ PLt (T'[j]!).1 (T'[i]!).1) :
    PSet A B (vals2 T') ∧ T.1.length ≤ 2 ^ A.v.toNat ∧ (∀ z ∈ L, inR z ∨ ¬ A.v ≤ 12) ∧
      ∀ L2 : List Int, L2.length = L.length → (∀ i : Int, 0 ≤ i → i < L.length → gi L2 i = ixP (vals2 T') (p2 (vals2 T.1) (gi L i)).a (p2 (vals2 T.1) (gi L i)).b) →
        BOk A.v L2 M ∧ Std A.v [A, B] (ixF (vals2 T')) L2 M (rt [A, B]) p ∧ ∀ z ∈ L2, z ∈ ([] : List Int) ∨ ∃ e, gF [A, B] (ixF (vals2 T')) (rt [A, B]) e = z := by
  obtain ⟨b, s, hr⟩ := hall _ (agP_ix T)
  have gf : ∀ F e, gF [A, B] F (rt [A, B]) e = F (vl A e) (vl B e) (gev (mG (dm [A, B] 2)) e (kg (rt [A, B]) 2)) := fun _ _ => rfl
  have hlen : (vals2 T.1).length = T.1.length := by simp [vals2]
  obtain ⟨seen, all, memP⟩ := pair_mem hI b s hr
  have hpv : (vals2 T').Perm (vals2 T.1) := hp.map _
  have memS : ∀ q, q ∈ vals2 T' ↔ ∃ e, q = ⟨vl A e, vl B e⟩ := fun q => by rw [hpv.mem_iff]; exact memP q
  have hnS : (vals2 T').Nodup := (hpv.nodup_iff).2 T.2
  have inS : ∀ e, ∃ i, pF (vals2 T') (vl A e, vl B e) = some i := fun e => pF_mem ((memS _).2 ⟨e, rfl⟩)
  have hcnt := pair_cnt hA hB hv hI hall
  refine ⟨⟨sorted_of hnS hs, memS⟩, hcnt, fun z hz => ?_, fun L2 hl h2 => ?_⟩
  · by_cases h12 : A.v ≤ 12
    · rw [hI] at hz
      have := upN_mem.1 hz
      have p12 : 2 ^ A.v.toNat ≤ 2 ^ 12 := Nat.pow_le_pow_right (by omega) (by omega)
      have : (2 : Nat) ^ 12 = 4096 := by decide
      left; unfold inR; omega
    · exact .inr h12
  · have hLl : L.length = T.1.length := by rw [hI]; exact upN_len _
    have at_ : ∀ i : Int, 0 ≤ i → i < L.length → gi L i = i := fun i h0 h1 => by rw [hI]; exact upN_at h0 (by omega)
    have okI : ∀ r, (bV L M).ok r → (bV L2 M).ok r := fun r h => by
      obtain ⟨h1, h2, h3⟩ := h
      exact ⟨h1, fun q => by rw [hl]; exact h2 q, h3⟩
    have okI' : ∀ r, (bV L2 M).ok r → (bV L M).ok r := fun r h => by
      obtain ⟨h1, h2, h3⟩ := h
      exact ⟨h1, fun q => by rw [← hl]; exact h2 q, h3⟩
    have red2 : GRed A.v (bV L2 M) := by
      have f := b.red
      exact ⟨fun r h => f.vr r (okI' r h), fun r h => f.ne r (okI' r h), fun r h q => by obtain ⟨x, y, z⟩ := f.lo r (okI' r h) q; exact ⟨okI _ x, y, z⟩, fun r h q => by obtain ⟨x, y, z⟩ := f.hi r (okI' r h) q; exact ⟨okI _ x, y, z⟩, fun r s h h1 h2 h3 => f.uq r s (okI' r h) h1 (okI' s h2) h3⟩
    have val2 : ∀ e, gev (bV L2 M) e p = gF [A, B] (ixF (vals2 T')) (rt [A, B]) e := fun e => by
      have g := gv_ext b.red red2 (fun r h => ⟨okI r h, Iff.rfl, rfl⟩) (fun k => ixP (vals2 T') (p2 (vals2 T.1) k).a (p2 (vals2 T.1) k).b) (fun r h q => by
        have q : r % 2 = 0 := q
        have hb := h.2.1 q
        exact h2 (r / 2) (by have := h.1; omega) hb) e _ p s.rf (Nat.le_refl _)
      rw [g, s.val e, gf, gf]
      obtain ⟨i, hi⟩ := seen e
      show ixP _ (p2 _ (ixP (vals2 T.1) (vl A e) (vl B e))).a (p2 _ (ixP (vals2 T.1) (vl A e) (vl B e))).b = ixP _ (vl A e) (vl B e)
      have : ixP (vals2 T.1) (vl A e) (vl B e) = i := by unfold ixP; rw [hi]; rfl
      rw [this, (pF_some hi).2]
    refine ⟨⟨red2, fun i j i0 i1 j0 j1 e => ?_⟩, ⟨okI p s.rf, s.lv, val2⟩, fun z hz => .inr ?_⟩
    · rw [h2 i i0 (by omega), h2 j j0 (by omega), at_ i i0 (by omega), at_ j j0 (by omega)] at e
      obtain ⟨x, hx, hx2⟩ := all i i0 (by omega)
      obtain ⟨y, hy, hy2⟩ := all j j0 (by omega)
      rw [hx, hy] at e
      obtain ⟨a, ha⟩ := inS x
      obtain ⟨c, hc⟩ := inS y
      have e : ixP (vals2 T') (vl A x) (vl B x) = ixP (vals2 T') (vl A y) (vl B y) := e
      unfold ixP at e
      rw [ha, hc] at e
      have e : a = c := e
      subst e
      have e2 := (pF_some ha).2
      rw [(pF_some hc).2] at e2
      have e3 : vl A y = vl A x ∧ vl B y = vl B x := by injection e2 with u w; exact ⟨u, w⟩
      rw [← e3.1, ← e3.2, hy2] at hx2
      exact (Option.some.inj hx2).symm
    · obtain ⟨i, hi, e⟩ := pos_of_getD hz
      rw [h2 i (by omega) (by omega), at_ i (by omega) (by omega)] at e
      obtain ⟨x, hx, _⟩ := all i (by omega) (by omega)
      rw [hx] at e
      exact ⟨x, e⟩
/-- The diagram that Pair returns, of the pairs S. -/
noncomputable abbrev prT (A B : Mg) (S : List P2) : List Int := tabv A.v fun e => ixP S (vl A e) (vl B e)
noncomputable def prD (A B : Mg) (S : List P2) : Mg := if vE [A, B] = 0 then mkD A.v (prT A B S) else zM
theorem prD_0 {A B : Mg} {S : List P2} (h : vE [A, B] = 0) : prD A B S = mkD A.v (prT A B S) := if_pos h
theorem prD_n {A B : Mg} {S : List P2} (h : vE [A, B] ≠ 0) : prD A B S = zM := if_neg h
theorem ixP_in {A B : Mg} {S : List P2} (h : PSet A B S) (e : Int → Bool) : (0 ≤ ixP S (vl A e) (vl B e) ∧ ixP S (vl A e) (vl B e) < S.length) ∧ p2 S (ixP S (vl A e) (vl B e)) = ⟨vl A e, vl B e⟩ := by
  obtain ⟨i, hi⟩ := pF_mem ((h.mem ⟨vl A e, vl B e⟩).2 ⟨e, rfl⟩)
  have q : ixP S (vl A e) (vl B e) = i := by unfold ixP; rw [hi]; rfl
  rw [q]; exact pF_some hi
theorem pset_len {A B : Mg} {S : List P2} (hA : Ok A) (hB : Ok B) (hv : A.v = B.v) (h : PSet A B S) : S.length ≤ 2 ^ A.v.toNat := by
  have hn : S.Nodup := h.ord.imp fun {x y} q e => by subst e; unfold PLt at q; omega
  rw [← tabv_len (vars := A.v) fun e => (⟨vl A e, vl B e⟩ : P2)]
  refine len_sub hn fun q hq => ?_
  obtain ⟨e, rfl⟩ := (h.mem q).1 hq
  exact (tabv_mem hA.1.1 fun e e' h => by rw [hA.dep e e' h, hB.dep e e' (fun i a c => h i a (by omega))]).2 ⟨e, rfl⟩
theorem prT_in {A B : Mg} {S : List P2} (hA : Ok A) (hB : Ok B) (hv : A.v = B.v) (h : PSet A B S) (h12 : A.v ≤ 12) : (∀ z ∈ prT A B S, inR z) ∧ mkE A.v (prT A B S) = 0 := by
  have hl := pset_len hA hB hv h
  have p12 : 2 ^ A.v.toNat ≤ 2 ^ 12 := Nat.pow_le_pow_right (by omega) (by omega)
  have : (2 : Nat) ^ 12 = 4096 := by decide
  have hin : ∀ z ∈ prT A B S, inR z := fun z hz => by
    have hd : Dep A.v fun e => ixP S (vl A e) (vl B e) := fun e e' q => by show ixP S (vl A e) (vl B e) = ixP S (vl A e') (vl B e'); rw [hA.dep e e' q, hB.dep e e' (fun i a c => q i a (by omega))]
    obtain ⟨e, rfl⟩ := (tabv_mem hA.1.1 hd).1 hz
    have := (ixP_in h e).1
    unfold inR; omega
  exact ⟨hin, (mk_small h12 (tabv_len _) hin).1⟩
end Go.Proofs.Ytkmhjcjpohpiaaa

namespace Go.Proofs.Ytkmhjcjpohpiaaa
open Go Go.RowKit Go.Shelf Go.Proofs Go.Lib Go.Sort Go.Vc
theorem Delete_c {V : HV} {v : Value} {zs : List Int} {i j : Nat} (hz : zs ≠ []) (hij : i ≤ j) (hj : j ≤ zs.length) :
    FnC Try.prog 22 [v, .int .i64 i, .int .i64 j] V [Gr 3 1 v zs.length (zs.map (Value.int .i64))] (fun u V' σ' => V' = V ∧ σ' = [Gr 3 1 u (zs.take i ++ zs.drop j).length ((zs.take i ++ zs.drop j).map (Value.int .i64))]) := by
  refine ⟨⟨_, Try.func22, by rfl, by rfl⟩, fun w0 hs0 h1 h2 h3 h4 => ?_⟩
  obtain ⟨h, hh⟩ : ∃ h, hs0 = [h] := by
    match hs0, h1 with
    | [h], _ => exact ⟨h, rfl⟩
  subst hh
  have hg : Gr 3 1 v zs.length (zs.map (Value.int .i64)) h := h1.1
  obtain ⟨hl, hg⟩ := hg
  rcases hg with ⟨rfl, hn, _⟩ | ⟨g, cap, cur, rfl, rfl, q1, q2, q3, q4⟩
  · exact absurd (List.eq_nil_of_length_eq_zero hn) hz
  · have hb : w0.heap[g]? = some (.cells cur 3 (0, 0)) := (h4 (Vc.one g (.cells cur 3 (0, 0))) (List.mem_singleton.2 rfl)).1 g _ (by show (if g = g then some _ else none) = _; rw [if_pos rfl])
    have hH : Holds (Value.int .i64) w0 g 0 zs.toArray := fun j hj => by
      have hj' : j < zs.length := by simpa using hj
      have e : cur[j]? = some (.int .i64 zs[j]) := by
        have := congrArg (fun l => l[j]?) q4
        simp only [List.getElem?_take, List.getElem?_map] at this
        rw [if_pos (by omega)] at this
        simpa [List.getElem?_eq_getElem hj'] using this
      refine ⟨?_, by simp [World.frozen?, hb]⟩
      simp [World.cell?, hb, e, hj']
    refine (Try.slices_Delete_int g 0 cap i j zs w0 hH q1 (by simp only [maxLen] at q2; omega) hij hj).mono fun e w' ⟨he, n, hw⟩ => ?_
    have hcl : (zs.take i ++ zs.drop j).length = zs.length - (j - i) := by rw [List.length_append, List.length_take, List.length_drop]; omega
    have hlen : (zs.take i ++ zs.drop j ++ List.replicate (j - i) 0).length = zs.length := by rw [List.length_append, hcl, List.length_replicate]; omega
    rw [put_heap hb] at hw
    have m1 : Mem ⟨w0, V, dom [Vc.one g (.cells cur 3 (0, 0))]⟩ V [Blk g (.cells cur 3 (0, 0))] w0 :=
      Vc.mem_start (σ0 := [Blk g (.cells cur 3 (0, 0))]) ⟨rfl, trivial⟩ h2 h3 h4
    have m3 := (m1.drawn (w0.drawn + n)).setBlk (k := 0) rfl (.cells (putCells (Value.int .i64) 0 (zs.take i ++ zs.drop j ++ List.replicate (j - i) 0).toArray cur) 3 (0, 0)) _ rfl
    rw [hw]
    refine ⟨_, V, _, he, ⟨rfl, rfl⟩, ?_⟩
    obtain ⟨hs, s1, s2, s3⟩ := m3.own
    refine ⟨m3.os, m3.tape, m3.output, m3.size, m3.frame, m3.sub, m3.view, m3.vold, hs, ?_, s2, s3⟩
    match hs, s1 with
    | [x], s1 =>
      refine ⟨⟨by simp, .inr ⟨g, cap, _, by rw [hcl], s1.1, by omega, q2, by simp [putCells]; omega, ?_⟩⟩, trivial⟩
      rw [Nat.mul_one, putCells_take2 (by rw [hlen, hcl]; omega) (by rw [hlen]; omega), List.take_left' rfl]
end Go.Proofs.Ytkmhjcjpohpiaaa

namespace Go.Proofs.Ytkmhjcjpohpiaaa
open Go Go.Vc
open Classical
/-- The sum over the variables of a list. -/
def sumO (g : (Int → Bool) → Int) : List Int → (Int → Bool) → Int
  | [], e => g e
  | i :: R, e => sumO g R (up e i false) + sumO g R (up e i true)
def sm (i : Int) (g : (Int → Bool) → Int) : (Int → Bool) → Int := fun e => g (up e i false) + g (up e i true)
theorem up_comm {i j : Int} {a b : Bool} {e : Int → Bool} (h : i ≠ j) : up (up e i a) j b = up (up e j b) i a := by
  funext k
  unfold up
  by_cases h1 : k = i
  · rw [if_neg (by omega), if_pos h1, if_pos h1]
  · rw [if_neg h1, if_neg h1]
theorem sumO_sm {g : (Int → Bool) → Int} {i : Int} : ∀ (R : List Int) (e : Int → Bool), i ∉ R → sumO g (i :: R) e = sumO (sm i g) R e
  | [], _, _ => rfl
  | j :: R, e, h => by
    have hj : i ≠ j := fun q => h (by rw [q]; exact List.mem_cons_self ..)
    have hR : i ∉ R := fun q => h (List.mem_cons_of_mem _ q)
    have e1 := sumO_sm (g := g) R (up e j false) hR
    have e2 := sumO_sm (g := g) R (up e j true) hR
    show (sumO g R (up (up e i false) j false) + sumO g R (up (up e i false) j true)) + (sumO g R (up (up e i true) j false) + sumO g R (up (up e i true) j true)) = sumO (sm i g) R (up e j false) + sumO (sm i g) R (up e j true)
    rw [← e1, ← e2]
    show _ = (sumO g R (up (up e j false) i false) + sumO g R (up (up e j false) i true)) + (sumO g R (up (up e j true) i false) + sumO g R (up (up e j true) i true))
    rw [up_comm hj, up_comm hj, up_comm hj, up_comm hj]
    omega
theorem sumO_del {g : (Int → Bool) → Int} {i : Int} {B : List Int} : ∀ (A : List Int) (e : Int → Bool), i ∉ A → i ∉ B → sumO g (A ++ i :: B) e = sumO (sm i g) (A ++ B) e
  | [], e, _, h => sumO_sm B e h
  | a :: A, e, h1, h2 => by
    have h : i ∉ A := fun q => h1 (List.mem_cons_of_mem _ q)
    show sumO g (A ++ i :: B) _ + sumO g (A ++ i :: B) _ = sumO (sm i g) (A ++ B) _ + sumO (sm i g) (A ++ B) _
    rw [sumO_del A _ h h2, sumO_del A _ h h2]
theorem sumO_dep {n : Int} {g : (Int → Bool) → Int} (hd : Dep n g) : ∀ (R : List Int) (e e' : Int → Bool), (∀ i, 0 ≤ i → i < n → i ∉ R → e i = e' i) → sumO g R e = sumO g R e'
  | [], e, e', h => hd e e' fun i a b => h i a b (by simp)
  | j :: R, e, e', h => by
    show sumO g R _ + sumO g R _ = sumO g R _ + sumO g R _
    have key : ∀ b, sumO g R (up e j b) = sumO g R (up e' j b) := fun b => sumO_dep hd R _ _ fun i a c hi => by
      unfold up
      by_cases q : i = j
      · rw [if_pos q, if_pos q]
      · rw [if_neg q, if_neg q]; exact h i a c fun z => (List.mem_cons.1 z).elim q hi
    rw [key, key]
def sumL : List Int → Int
  | [] => 0
  | a :: l => a + sumL l
theorem sumL_app : ∀ (A B : List Int), sumL (A ++ B) = sumL A + sumL B
  | [], B => by show sumL B = 0 + sumL B; omega
  | a :: A, B => by show a + sumL (A ++ B) = (a + sumL A) + sumL B; rw [sumL_app A B]; omega
def upr (v : Int) : Nat → List Int
  | 0 => []
  | m + 1 => v :: upr (v + 1) m
theorem upr_mem : ∀ (m : Nat) (v i : Int), i ∈ upr v m ↔ v ≤ i ∧ i < v + m
  | 0, v, i => by
    show i ∈ [] ↔ _
    constructor
    · intro h; cases h
    · intro h; omega
  | m + 1, v, i => by
    show i ∈ v :: upr (v + 1) m ↔ _
    rw [List.mem_cons, upr_mem m]; omega
theorem upr_nod : ∀ (m : Nat) (v : Int), (upr v m).Nodup
  | 0, _ => List.nodup_nil
  | m + 1, v => List.nodup_cons.2 ⟨fun h => by have := (upr_mem m _ _).1 h; omega, upr_nod m _⟩
theorem upr_snoc : ∀ (m : Nat) (v : Int), upr v (m + 1) = upr v m ++ [v + m]
  | 0, v => by show [v] = [v + 0]; rw [Int.add_zero]
  | m + 1, v => by
    show v :: upr (v + 1) (m + 1) = v :: (upr (v + 1) m ++ [v + ((m + 1 : Nat) : Int)])
    rw [upr_snoc m, show v + 1 + (m : Int) = v + ((m + 1 : Nat) : Int) by omega]
theorem upr_len (m : Nat) (v : Int) : (upr v m).length = m := by
  induction m generalizing v with
  | zero => rfl
  | succ m ih => show (upr (v + 1) m).length + 1 = _; rw [ih]
theorem sum_tab (g : (Int → Bool) → Int) : ∀ (m : Nat) (v : Int) (e : Int → Bool), sumL (tab g m v e) = sumO g (upr v m) e
  | 0, v, e => by show g e + 0 = g e; omega
  | m + 1, v, e => by
    show sumL (tab g m (v + 1) (up e v false) ++ tab g m (v + 1) (up e v true)) = _
    rw [sumL_app, sum_tab g m, sum_tab g m]; rfl
/-- While variables are summed out: R is what is left. -/
structure SInv (n total : Int) (R : List Int) (A : Mg) : Prop where
  ok : Ok A
  v : A.v = n
  n12 : n ≤ 12
  nod : R.Nodup
  rg : ∀ i ∈ R, 0 ≤ i ∧ i < n
  sum : ∀ e, sumO (vl A) R e = total
  bd : ∀ e, (-67108864 ≤ vl A e * 2 ^ R.length) ∧ vl A e * 2 ^ R.length ≤ 67108864
theorem sInv_0 {n : Int} {A : Mg} (h : Ok A) (hv : A.v = n) (h12 : n ≤ 12) (hb : ∀ e, -1048576 ≤ vl A e ∧ vl A e ≤ 1048576) (h6 : n ≤ 6) : SInv n (sumL (vT A)) (upr 0 n.toNat) A := by
  have h0 := h.1.1
  refine ⟨h, hv, h12, upr_nod _ _, fun i hi => by have := (upr_mem _ _ _).1 hi; omega, fun e => ?_, fun e => ?_⟩
  · rw [sum_tab, hv]
    exact sumO_dep (n := n) (by rw [← hv]; exact h.dep) _ _ _ fun i a b c => absurd ((upr_mem _ _ _).2 ⟨a, by omega⟩) c
  · rw [upr_len]
    have hb := hb e
    have hp : (2 : Int) ^ n.toNat ≤ 64 := by
      have a : 2 ^ n.toNat ≤ 2 ^ 6 := Nat.pow_le_pow_right (by omega) (by omega)
      have c : ((2 ^ n.toNat : Nat) : Int) = (2 : Int) ^ n.toNat := by simp
      have : (2 : Nat) ^ 6 = 64 := by decide
      omega
    have hp0 : (0 : Int) < 2 ^ n.toNat := Int.pow_pos (by omega)
    generalize (2 : Int) ^ n.toNat = p at hp hp0
    constructor
    · have : -1048576 * p ≤ vl A e * p := Int.mul_le_mul_of_nonneg_right hb.1 (by omega)
      omega
    · have : vl A e * p ≤ 1048576 * p := Int.mul_le_mul_of_nonneg_right hb.2 (by omega)
      omega
theorem SInv.vb {n total : Int} {R : List Int} {A : Mg} (h : SInv n total R A) (e : Int → Bool) : -67108864 ≤ vl A e ∧ vl A e ≤ 67108864 := by
  have hb := h.bd e
  have hp0 : (0 : Int) < 2 ^ R.length := Int.pow_pos (by omega)
  generalize (2 : Int) ^ R.length = p at hb hp0
  generalize vl A e = x at hb
  constructor
  · apply Int.not_lt.1
    intro q
    have : x * p ≤ x * 1 := Int.mul_le_mul_of_nonpos_left (by omega) (by omega)
    omega
  · apply Int.not_lt.1
    intro q
    have : x * 1 ≤ x * p := Int.mul_le_mul_of_nonneg_left (by omega) (by omega)
    omega
theorem sInv_step {n total i : Int} {A1 B1 : List Int} {A : Mg} (h : SInv n total (A1 ++ i :: B1) A) : (0 ≤ i ∧ i < A.v) ∧ boE A i sumF = 0 ∧ SInv n total (A1 ++ B1) (boD A i sumF) := by
  have hn := h.nod
  have hi := h.rg i (by simp)
  have hv := h.v
  have hok := h.ok
  have h0 : rsE A i = 0 := rsE_0 hok (by omega)
  have hin : ∀ e, inR (vl A (up e i false) + vl A (up e i true)) := fun e => by
    have a := h.vb (up e i false)
    have b := h.vb (up e i true)
    unfold inR; omega
  have hd : Dep A.v fun e => vl A (up e i false) + vl A (up e i true) := fun e e' he => by
    show vl A (up e i false) + vl A (up e i true) = vl A (up e' i false) + vl A (up e' i true)
    have q1 : vl A (up e i false) = vl A (up e' i false) := hok.dep.up (i := i) (b := false) e e' he
    have q2 : vl A (up e i true) = vl A (up e' i true) := hok.dep.up (i := i) (b := true) e e' he
    rw [q1, q2]
  have ht : ∀ z ∈ boT A i sumF, inR z := fun z hz => by
    obtain ⟨e, rfl⟩ := (tabv_mem hok.1.1 hd).1 hz
    exact hin e
  obtain ⟨m0, m1⟩ := mk_small (vars := A.v) (by have := h.n12; omega) (tabv_len _) ht
  have hb0 : boE A i sumF = 0 := by rw [boE_0 h0]; exact m0
  have hbd : boD A i sumF = dg A.v (boT A i sumF) := by rw [boD_0 h0, m1]
  have hvl : vl (boD A i sumF) = sm i (vl A) := by
    funext e
    rw [hbd]
    exact vl_dg hok.1.1 hd hin e
  have nA : i ∉ A1 := fun q => (List.nodup_append.1 hn).2.2 i q i (by simp) rfl
  have nB : i ∉ B1 := (List.nodup_cons.1 (List.nodup_append.1 hn).2.1).1
  refine ⟨by omega, hb0, ⟨by rw [boD_0 h0]; exact mk_ok hok.1.1 hok.1.2 (tabv_len _) m0, by rw [hbd]; exact hv, h.n12, ?_, fun j hj => h.rg j (by rcases List.mem_append.1 hj with q | q <;> simp [q]), fun e => ?_, fun e => ?_⟩⟩
  · have a := List.nodup_append.1 hn
    rw [List.nodup_append]
    exact ⟨a.1, (List.nodup_cons.1 a.2.1).2, fun x hx y hy => a.2.2 x hx y (List.mem_cons_of_mem _ hy)⟩
  · rw [hvl, ← sumO_del A1 e nA nB]; exact h.sum e
  · rw [hvl]
    have a := h.bd (up e i false)
    have b := h.bd (up e i true)
    have hl : (A1 ++ i :: B1).length = (A1 ++ B1).length + 1 := by rw [List.length_append, List.length_append, List.length_cons]; omega
    rw [hl, Int.pow_succ] at a b
    show _ ≤ (vl A (up e i false) + vl A (up e i true)) * _ ∧ _
    generalize (2 : Int) ^ (A1 ++ B1).length = p at a b ⊢
    have e1 : vl A (up e i false) * (p * 2) = 2 * (vl A (up e i false) * p) := by rw [← Int.mul_assoc]; omega
    have e2 : vl A (up e i true) * (p * 2) = 2 * (vl A (up e i true) * p) := by rw [← Int.mul_assoc]; omega
    rw [e1] at a
    rw [e2] at b
    show _ ≤ (vl A (up e i false) + vl A (up e i true)) * p ∧ (vl A (up e i false) + vl A (up e i true)) * p ≤ _
    rw [Int.add_mul]
    omega
/-- At the end all values are the total. -/
theorem sInv_end {n total : Int} {A : Mg} (h : SInv n total [] A) : inR total ∧ cnE n total = 0 ∧ cnD n total = A := by
  have hok := h.ok
  have hv := h.v
  have he : ∀ e, vl A e = total := fun e => h.sum e
  have hin : inR total := by have := h.vb e0; rw [he] at this; unfold inR; omega
  obtain ⟨c1, c2⟩ := cn_0 (vars := n) (v := total) (fun q => q.elim (fun z => by have := hok.1; omega) (fun z => z hin))
  refine ⟨hin, c1, ?_⟩
  have e2 : vT A = tabv A.v fun _ => total := tab_congr _ _ _ fun e _ => he e
  rw [c2, ← hok.2.2.2, e2, cn_dg, hv]
theorem del_at {R : List Int} {j : Int} (h0 : 0 ≤ j) (h1 : j < R.length) : R = R.take j.toNat ++ gi R j :: R.drop (j + 1).toNat ∧ R.take j.toNat ++ R.drop (j + 1).toNat = R.take j.toNat ++ R.drop (j.toNat + 1) := by
  have e : (j + 1).toNat = j.toNat + 1 := by omega
  rw [e]
  refine ⟨?_, rfl⟩
  have q : gi R j = R[j.toNat]'(by omega) := by unfold gi; rw [List.getD_eq_getElem?_getD, List.getElem?_eq_getElem (by omega)]; rfl
  rw [q, List.getElem_cons_drop, List.take_append_drop]
theorem sumL_take {l : List Int} {i : Int} (h0 : 0 ≤ i) (h1 : i < l.length) : sumL (l.take (i + 1).toNat) = sumL (l.take i.toNat) + gi l i := by
  rw [show (i + 1).toNat = i.toNat + 1 by omega, List.take_add_one, List.getElem?_eq_getElem (by omega), sumL_app]
  congr 1
  show l[i.toNat] + 0 = gi l i
  unfold gi
  rw [List.getD_eq_getElem?_getD, List.getElem?_eq_getElem (by omega)]
  show l[i.toNat] + 0 = l[i.toNat]
  omega
end Go.Proofs.Ytkmhjcjpohpiaaa

namespace Go.Proofs.Ytkmhjcjpohpiaaa
open Go Go.Vc
open Classical
theorem pow64 {n : Int} (h0 : 0 ≤ n) (h : (2 : Int) ^ n.toNat ≤ 64) : n ≤ 6 := by
  apply Int.not_lt.1
  intro q
  have a : 2 ^ 7 ≤ 2 ^ n.toNat := Nat.pow_le_pow_right (by omega) (by omega)
  have c : ((2 ^ n.toNat : Nat) : Int) = (2 : Int) ^ n.toNat := by simp
  have : (2 : Nat) ^ 7 = 128 := by decide
  omega
theorem pow_s {n : Int} (h0 : 0 ≤ n) : (2 : Int) ^ (n + 1).toNat = 2 * 2 ^ n.toNat := by
  rw [show (n + 1).toNat = n.toNat + 1 by omega, Int.pow_succ]; omega
theorem pow_c (n : Nat) : ((2 ^ n : Nat) : Int) = (2 : Int) ^ n := by simp
section
variable {n : Int} {T : List Int}
theorem ft_facts (h0 : 0 ≤ n) (h6 : n ≤ 6) (hl : (T.length : Int) = 2 ^ n.toNat) (hb : ∀ x : Int, 0 ≤ x → x < T.length → -1048576 ≤ gi T x ∧ gi T x ≤ 1048576) :
    ftE n T = 0 ∧ Ok (ftD n T) ∧ (ftD n T).v = n ∧ vT (ftD n T) = T ∧ ∀ e, -1048576 ≤ vl (ftD n T) e ∧ vl (ftD n T) e ≤ 1048576 := by
  have hl2 : T.length = 2 ^ n.toNat := by have := pow_c n.toNat; omega
  have hin : ∀ z ∈ T, -1048576 ≤ z ∧ z ≤ 1048576 := fun z hz => by
    obtain ⟨i, hi, e⟩ := pos_of_getD hz
    rw [← e]; exact hb i (by omega) (by omega)
  obtain ⟨m0, m1⟩ := mk_small (vars := n) (t := T) (by omega) hl2 fun z hz => by have := hin z hz; unfold inR; omega
  obtain ⟨f1, f2⟩ := ft_0 (vars := n) (t := T) (by omega) hl
  have hok := mk_ok h0 (by omega) hl2 m0
  have hv : (mkD n T).v = n := by rw [m1]; rfl
  have hvt := vT_mk h0 hl2 m0
  rw [f1, f2]
  refine ⟨m0, hok, hv, hvt, fun e => ?_⟩
  have hm : vl (mkD n T) e ∈ vT (mkD n T) := (tabv_mem hok.1.1 hok.dep).2 ⟨e, rfl⟩
  rw [hvt] at hm
  exact hin _ hm
end
theorem cp_facts {A : Mg} (h : Ok A) (h12 : A.v ≤ 12) : cpE A (-3) 3 = 0 ∧ Ok (cpD A (-3) 3) ∧ (cpD A (-3) 3).v = A.v := by
  have hq : ¬ ((3 : Int) < -3 ∨ ¬ inR (-3) ∨ ¬ inR 3) := fun q => by
    rcases q with q | q | q
    · omega
    · exact q ⟨by decide, by decide⟩
    · exact q ⟨by decide, by decide⟩
  obtain ⟨c1, c2⟩ := cp_0 (A := A) h hq
  obtain ⟨m0, m1⟩ := mk_small (vars := A.v) h12 (tabv_len _) (cp_in h hq)
  rw [c1, c2]
  exact ⟨m0, mk_ok h.1.1 h.1.2 (tabv_len _) m0, by rw [m1]; rfl⟩
theorem two_ok {A B : Mg} (hA : Ok A) (hB : Ok B) (hv : A.v = B.v) : vE [A, B] = 0 := vE_0 (vld2.2 ⟨hA, hB⟩) (sam2.2 hv)
/-- The table of the pair's diagram. -/
theorem pr_facts {A B : Mg} {S : List P2} (hA : Ok A) (hB : Ok B) (hv : A.v = B.v) (h12 : A.v ≤ 12) (h : PSet A B S) :
    tbE (prD A B S) = 0 ∧ tbL (prD A B S) = prT A B S ∧ tbE B = 0 ∧ tbL B = vT B := by
  have hz := two_ok hA hB hv
  have hm := (prT_in hA hB hv h h12).2
  have hok := mk_ok hA.1.1 hA.1.2 (tabv_len _) hm
  have hD : (mkD A.v (prT A B S)).v = A.v := by rw [mkD_0 hm]; rfl
  rw [prD_0 hz]
  obtain ⟨t1, t2⟩ := tb_0 hok (by rw [hD]; omega)
  obtain ⟨u1, u2⟩ := tb_0 hB (by omega)
  exact ⟨t1, by rw [t2]; exact vT_mk hA.1.1 (tabv_len _) hm, u1, u2⟩
theorem pr_at {A B : Mg} {S : List P2} {T : List Int} {n i : Int} (hA : Ok A) (hB : Ok B) (hv : A.v = n) (hw : B.v = n) (h : PSet A B S) (hT : vT A = T) (h0 : 0 ≤ i) (h1 : i < T.length) :
    (0 ≤ gi (prT A B S) i ∧ gi (prT A B S) i < S.length) ∧ (p2 S (gi (prT A B S) i)).a = gi T i ∧ (p2 S (gi (prT A B S) i)).b = gi (vT B) i := by
  have h00 := hA.1.1
  have hl : (T.length : Int) = 2 ^ A.v.toNat := by rw [← hT]; exact tabv_lenI h00
  have e1 : gi (prT A B S) i = ixP S (vl A (asg A.v i)) (vl B (asg A.v i)) := tabv_gi (g := fun e => ixP S (vl A e) (vl B e)) h00 h0 (by omega)
  have e2 : gi T i = vl A (asg A.v i) := by rw [← hT]; exact tabv_gi h00 h0 (by omega)
  have e3 : gi (vT B) i = vl B (asg A.v i) := by
    have : vT B = tabv A.v (vl B) := by rw [hv, ← hw]
    rw [this]; exact tabv_gi h00 h0 (by omega)
  obtain ⟨q1, q2⟩ := ixP_in h (asg A.v i)
  rw [e1, e2, e3, q2]
  exact ⟨q1, rfl, rfl⟩
theorem pr_len {A B : Mg} {S : List P2} (h00 : 0 ≤ A.v) (hv : A.v = B.v) : ((prT A B S).length : Int) = 2 ^ A.v.toNat ∧ ((vT B).length : Int) = 2 ^ A.v.toNat :=
  ⟨tabv_lenI h00, by rw [show vT B = tabv A.v (vl B) by rw [hv]]; exact tabv_lenI h00⟩
theorem tk_set {T : List Int} {i z : Int} (h0 : 0 ≤ i) (h1 : i < T.length) : sumL ((T.set i.toNat z).take (i + 1).toNat) = sumL (T.take i.toNat) + z := by
  rw [sumL_take h0 (by rw [List.length_set]; exact h1), gi_set h0 h1 h0, if_pos rfl, List.take_set_of_le (Nat.le_refl _)]
theorem tm_bd (x : Int) : -1048576 < x.tmod 1048576 ∧ x.tmod 1048576 < 1048576 := by
  rw [Int.tmod_eq_emod]
  split <;> omega
theorem gi_rep0 {m : Nat} {x : Int} : gi (List.replicate m (0 : Int)) x = 0 := by
  unfold gi
  rw [List.getD_eq_getElem?_getD, List.getElem?_replicate]
  split <;> rfl
end Go.Proofs.Ytkmhjcjpohpiaaa
