import Derived.Test.YtbchkopkgpfkgaaGreatDoorWp
import Derived.Test.YtbchkopkgpfkgaaGreatDoorTy
import Derived.Test.YtbchkopkgpfkgaaGreatDoorWr
/- Reading the arguments of the top laws: terms, steps, variables, hatches. -/
namespace Go.Proofs.YtbchkopkgpfkgaaGreatDoor
open Go Go.Vc Go.ChangeShapes Go.WideShapes Go.ChangeAt Go.RowKit Go.Deep
section
variable {H : Type} {enc : TypeId × Value → H} {W : World} {base : Nat} {held : Bool}
abbrev Rd (enc : TypeId × Value → H) (W : World) (base : Nat) (held : Bool) (fuel : Nat) (t : TypeId) (cs : List Value) : Prop := ∃ x, DataW.trod enc Tryz.prog W base (fun _ => true) held fuel t cs = some x
/-- A term that came in. -/
theorem read_tm {m : Nat} {cs : List Value} (ih : ∀ k, k < m → ∀ c, Rd enc W base held k 74 [c] → ∃ l, Tms (hv W) c l) (h : Rd enc W base held m 76 cs) :
    ∃ (op n : Int) (kv : Value) (l : List Tm), cs = [.int .i64 op, .int .i64 n, kv] ∧ Tms (hv W) kv l := by
  obtain ⟨x, h⟩ := h
  obtain ⟨xs, k, hk, _, hl, hxl, hf⟩ := DataW.trod_struct Tryz.underlying76 h
  obtain ⟨y0, y1, y2, rfl⟩ := len3 (hl.trans (by kernel_rfl))
  have hx3 : xs.length = 3 := hxl
  obtain ⟨_, g0⟩ := fld hf 0 rfl (w := 1) (by kernel_rfl) rfl (by omega)
  obtain ⟨_, g1⟩ := fld hf 1 rfl (w := 1) (by kernel_rfl) rfl (by omega)
  obtain ⟨x2, g2⟩ := fld hf 2 rfl (w := 1) (by kernel_rfl) rfl (by omega)
  obtain ⟨op, rfl⟩ := read_int Tryz.underlying73 g0
  obtain ⟨n, rfl⟩ := read_int Tryz.underlying3 g1
  obtain ⟨l, hl⟩ := ih k (by omega) y2 ⟨x2, g2⟩
  exact ⟨op, n, y2, l, rfl, hl⟩
instance : Inhabited (Int × Int × Value × List Tm) := ⟨(0, 0, undef, [])⟩
theorem read_tms : ∀ (fuel : Nat) (c : Value), Rd enc W base held fuel 74 [c] → ∃ l, Tms (hv W) c l := fun fuel => by
  induction fuel using Nat.strongRecOn with
  | _ fuel ih =>
    intro c ⟨x, h⟩
    obtain ⟨m, n0, cs, hm, hsl, hx⟩ := read_slice (s := 3) Tryz.underlying74 (by kernel_rfl) (by omega) h
    have each : ∀ i, i < n0 → ∃ r : Int × Int × Value × List Tm, cs i = [.int .i64 r.1, .int .i64 r.2.1, r.2.2.1] ∧ Tms (hv W) r.2.2.1 r.2.2.2 := fun i hi => by
      obtain ⟨op, n, kv, l, e, hl⟩ := read_tm (fun k hk => ih k (by omega)) (hx i hi).2
      exact ⟨(op, n, kv, l), e, hl⟩
    obtain ⟨R, hR⟩ := choose_lt each
    have hll : ((List.range n0).map fun i => Tm.mk (R i).1 (R i).2.1 (R i).2.2.2).length = n0 := by simp
    have at_ : ∀ i, i < n0 → tm ((List.range n0).map fun i => Tm.mk (R i).1 (R i).2.1 (R i).2.2.2) (i : Nat) = Tm.mk (R i).1 (R i).2.1 (R i).2.2.2 := fun i hi => by
      unfold tm; rw [show ((i : Int)).toNat = i by omega]; exact getD_mk hi
    have kat : ∀ i, i < n0 → gv ((List.range n0).map fun i => (R i).2.2.1) (i : Nat) = (R i).2.2.1 := fun i hi => by
      unfold gv; rw [show ((i : Int)).toNat = i by omega]; exact getD_mk hi
    refine ⟨(List.range n0).map fun i => Tm.mk (R i).1 (R i).2.1 (R i).2.2.2, .mk ((List.range n0).map fun i => (R i).2.2.1) ?_ fun i a b => ?_⟩
    · rw [hll]
      have e : tmcs ((List.range n0).map fun i => (R i).2.2.1) ((List.range n0).map fun i => Tm.mk (R i).1 (R i).2.1 (R i).2.2.2) = (List.range n0).flatMap cs := by
        unfold tmcs
        rw [hll]
        refine flat_congr fun i hi => ?_
        unfold tmc
        rw [at_ i hi, kat i hi]; exact ((hR i hi).1).symm
      rw [e]; exact hsl
    · rw [hll] at b
      have h1 := at_ i.toNat (by omega)
      have h2 := kat i.toNat (by omega)
      rw [show ((i.toNat : Nat) : Int) = i by omega] at h1 h2
      rw [h1, h2]; exact (hR i.toNat (by omega)).2
theorem read_intsR {t e : TypeId} {fuel : Nat} {c : Value} (ht : Tryz.prog.underlying t = some (.slice e)) (he : Tryz.prog.underlying e = some (.int .i64)) (ce : Tryz.prog.cellsOf e = 1) (h : Rd enc W base held fuel t [c]) : ∃ xs, Ints .i64 (hv W) c xs := by
  obtain ⟨x, h⟩ := h
  obtain ⟨s, n, u, e1⟩ := Go.Joins.slice_form ht h
  obtain rfl : c = .slice s n u := by simpa using e1
  obtain ⟨xs, m, _⟩ := read_ints ht he ce rfl (by simpa [Value.cells] using h)
  exact ⟨xs, m⟩
abbrev StR := (Int × Int × Int × Int) × (Int × Int × Value × List Tm) × (Value × List St) × (Value × List St) × (Value × List Int)
instance : Inhabited StR := ⟨(0, 0, 0, 0), (0, 0, undef, []), (undef, []), (undef, []), (undef, [])⟩
abbrev StR.st (r : StR) : St := .mk r.1.1 r.1.2.1 r.1.2.2.1 r.1.2.2.2 (.mk r.2.1.1 r.2.1.2.1 r.2.1.2.2.2) r.2.2.1.2 r.2.2.2.1.2 r.2.2.2.2.2
abbrev StR.cs (r : StR) : List Value := [.int .i64 r.1.1, .int .i64 r.1.2.1, .int .i64 r.1.2.2.1, .int .i64 r.1.2.2.2, .int .i64 r.2.1.1, .int .i64 r.2.1.2.1, r.2.1.2.2.1, r.2.2.1.1, r.2.2.2.1.1, r.2.2.2.2.1]
theorem read_st {m : Nat} {cs : List Value} (ih : ∀ k, k < m → ∀ c, Rd enc W base held k 24 [c] → ∃ l, Sts (hv W) c l) (h : Rd enc W base held m 78 cs) :
    ∃ r : StR, cs = r.cs ∧ Tms (hv W) r.2.1.2.2.1 r.2.1.2.2.2 ∧ Sts (hv W) r.2.2.1.1 r.2.2.1.2 ∧ Sts (hv W) r.2.2.2.1.1 r.2.2.2.1.2 ∧ Ints .i64 (hv W) r.2.2.2.2.1 r.2.2.2.2.2 := by
  obtain ⟨x, h⟩ := h
  obtain ⟨xs, k, hk, _, hl, hxl, hf⟩ := DataW.trod_struct Tryz.underlying78 h
  obtain ⟨y0, y1, y2, y3, y4, y5, y6, y7, y8, y9, rfl⟩ := len10 (hl.trans (by kernel_rfl))
  have hx3 : xs.length = 8 := hxl
  obtain ⟨_, g0⟩ := fld hf 0 rfl (w := 1) (by kernel_rfl) rfl (by omega)
  obtain ⟨_, g1⟩ := fld hf 1 rfl (w := 1) (by kernel_rfl) rfl (by omega)
  obtain ⟨_, g2⟩ := fld hf 2 rfl (w := 1) (by kernel_rfl) rfl (by omega)
  obtain ⟨_, g3⟩ := fld hf 3 rfl (w := 1) (by kernel_rfl) rfl (by omega)
  obtain ⟨x4, g4⟩ := fld hf 4 rfl (w := 3) (by kernel_rfl) rfl (by omega)
  obtain ⟨x5, g5⟩ := fld hf 5 rfl (w := 1) (by kernel_rfl) rfl (by omega)
  obtain ⟨x6, g6⟩ := fld hf 6 rfl (w := 1) (by kernel_rfl) rfl (by omega)
  obtain ⟨x7, g7⟩ := fld hf 7 rfl (w := 1) (by kernel_rfl) rfl (by omega)
  obtain ⟨dk, rfl⟩ := read_int Tryz.underlying72 g0
  obtain ⟨co, rfl⟩ := read_int Tryz.underlying3 g1
  obtain ⟨va, rfl⟩ := read_int Tryz.underlying3 g2
  obtain ⟨n, rfl⟩ := read_int Tryz.underlying3 g3
  obtain ⟨op, tn, kv, l, e, hk1⟩ := read_tm (fun k' _ => read_tms k') ⟨x4, g4⟩
  obtain ⟨rfl, rfl, rfl⟩ : y4 = .int .i64 op ∧ y5 = .int .i64 tn ∧ y6 = kv := by simpa using e
  obtain ⟨l1, h1⟩ := ih k (by omega) y7 ⟨x5, g5⟩
  obtain ⟨l2, h2⟩ := ih k (by omega) y8 ⟨x6, g6⟩
  obtain ⟨l3, h3⟩ := read_intsR Tryz.underlying27 Tryz.underlying3 (by kernel_rfl) ⟨x7, g7⟩
  exact ⟨((dk, co, va, n), (op, tn, y6, l), (y7, l1), (y8, l2), (y9, l3)), rfl, hk1, h1, h2, h3⟩
theorem read_sts : ∀ (fuel : Nat) (c : Value), Rd enc W base held fuel 24 [c] → ∃ l, Sts (hv W) c l := fun fuel => by
  induction fuel using Nat.strongRecOn with
  | _ fuel ih =>
    intro c ⟨x, h⟩
    obtain ⟨m, n0, cs, hm, hsl, hx⟩ := read_slice (s := 10) Tryz.underlying24 (by kernel_rfl) (by omega) h
    have each : ∀ i, i < n0 → ∃ r : StR, cs i = r.cs ∧ Tms (hv W) r.2.1.2.2.1 r.2.1.2.2.2 ∧ Sts (hv W) r.2.2.1.1 r.2.2.1.2 ∧ Sts (hv W) r.2.2.2.1.1 r.2.2.2.1.2 ∧ Ints .i64 (hv W) r.2.2.2.2.1 r.2.2.2.2.2 := fun i hi =>
      read_st (fun k hk => ih k (by omega)) (hx i hi).2
    obtain ⟨R, hR⟩ := choose_lt each
    have hll : ((List.range n0).map fun i => (R i).st).length = n0 := by simp
    have at_ : ∀ i, i < n0 → st ((List.range n0).map fun i => (R i).st) (i : Nat) = (R i).st := fun i hi => by
      unfold st; rw [show ((i : Int)).toNat = i by omega]; exact getD_mk hi
    have kat : ∀ (F : StR → Value) i, i < n0 → gv ((List.range n0).map fun i => F (R i)) (i : Nat) = F (R i) := fun F i hi => by
      unfold gv; rw [show ((i : Int)).toNat = i by omega]; exact getD_mk hi
    have to : ∀ i : Int, 0 ≤ i → i < ((List.range n0).map fun i => (R i).st).length → ∃ j : Nat, j < n0 ∧ i = (j : Nat) := fun i a b => ⟨i.toNat, by rw [hll] at b; omega, by omega⟩
    refine ⟨(List.range n0).map fun i => (R i).st, .mk ((List.range n0).map fun i => (R i).2.1.2.2.1) ((List.range n0).map fun i => (R i).2.2.1.1) ((List.range n0).map fun i => (R i).2.2.2.1.1) ((List.range n0).map fun i => (R i).2.2.2.2.1) ?_ (fun i a b => ?_) (fun i a b => ?_) (fun i a b => ?_) (fun i a b => ?_)⟩
    · rw [hll]
      have e : stcs ((List.range n0).map fun i => (R i).2.1.2.2.1) ((List.range n0).map fun i => (R i).2.2.1.1) ((List.range n0).map fun i => (R i).2.2.2.1.1) ((List.range n0).map fun i => (R i).2.2.2.2.1) ((List.range n0).map fun i => (R i).st) = (List.range n0).flatMap cs := by
        unfold stcs
        rw [hll]
        refine flat_congr fun i hi => ?_
        unfold stc
        rw [at_ i hi, kat (fun r => r.2.1.2.2.1) i hi, kat (fun r => r.2.2.1.1) i hi, kat (fun r => r.2.2.2.1.1) i hi, kat (fun r => r.2.2.2.2.1) i hi]; exact ((hR i hi).1).symm
      rw [e]; exact hsl
    · obtain ⟨j, hj, rfl⟩ := to i a b
      rw [at_ j hj, kat (fun r => r.2.1.2.2.1) j hj]; exact (hR j hj).2.1
    · obtain ⟨j, hj, rfl⟩ := to i a b
      rw [at_ j hj, kat (fun r => r.2.2.1.1) j hj]; exact (hR j hj).2.2.1
    · obtain ⟨j, hj, rfl⟩ := to i a b
      rw [at_ j hj, kat (fun r => r.2.2.2.1.1) j hj]; exact (hR j hj).2.2.2.1
    · obtain ⟨j, hj, rfl⟩ := to i a b
      rw [at_ j hj, kat (fun r => r.2.2.2.2.1) j hj]; exact (hR j hj).2.2.2.2
instance : Inhabited Vr := ⟨vr0⟩
theorem read_vrs {fuel : Nat} {c : Value} (h : Rd enc W base held fuel 22 [c]) : ∃ l, Vrs (hv W) c l ∧ ∀ v ∈ l, v.nm.size ≤ 9223372036854775807 := by
  obtain ⟨x, h⟩ := h
  obtain ⟨m, n0, cs, hm, hsl, hx⟩ := read_slice (s := 5) Tryz.underlying22 (by kernel_rfl) (by omega) h
  have each : ∀ i, i < n0 → ∃ r : Vr, cs i = [.string r.nm, .int .i64 r.kd, .int .i64 r.lo, .int .i64 r.hi, .int .i64 r.ini] ∧ r.nm.size ≤ 9223372036854775807 := fun i hi => by
    obtain ⟨_, x, h⟩ := hx i hi
    obtain ⟨xs, k, hk, _, hl, hxl, hf⟩ := DataW.trod_struct Tryz.underlying71 h
    obtain ⟨y0, y1, y2, y3, y4, e⟩ := len5 (hl.trans (by kernel_rfl))
    rw [e] at hf
    have hx3 : xs.length = 5 := hxl
    obtain ⟨_, g0⟩ := fld hf 0 rfl (w := 1) (by kernel_rfl) rfl (by omega)
    obtain ⟨_, g1⟩ := fld hf 1 rfl (w := 1) (by kernel_rfl) rfl (by omega)
    obtain ⟨_, g2⟩ := fld hf 2 rfl (w := 1) (by kernel_rfl) rfl (by omega)
    obtain ⟨_, g3⟩ := fld hf 3 rfl (w := 1) (by kernel_rfl) rfl (by omega)
    obtain ⟨_, g4⟩ := fld hf 4 rfl (w := 1) (by kernel_rfl) rfl (by omega)
    obtain ⟨nm, rfl, hn⟩ := read_str Tryz.underlying9 g0
    obtain ⟨kd, rfl⟩ := read_int Tryz.underlying39 g1
    obtain ⟨lo, rfl⟩ := read_int Tryz.underlying3 g2
    obtain ⟨hi', rfl⟩ := read_int Tryz.underlying3 g3
    obtain ⟨ini, rfl⟩ := read_int Tryz.underlying3 g4
    exact ⟨⟨nm, kd, lo, hi', ini⟩, e, hn⟩
  obtain ⟨R, hR⟩ := choose_lt each
  have hll : ((List.range n0).map R).length = n0 := by simp
  refine ⟨(List.range n0).map R, ?_, fun v hv => ?_⟩
  · unfold Vrs
    rw [hll]
    have e : vrcs ((List.range n0).map R) = (List.range n0).flatMap cs := by
      unfold vrcs
      rw [hll]
      refine flat_congr fun i hi => ?_
      have at_ : vr ((List.range n0).map R) (i : Nat) = R i := by unfold vr; rw [show ((i : Int)).toNat = i by omega]; exact getD_mk hi
      unfold vrc
      rw [at_]; exact ((hR i hi).1).symm
    rw [e]; exact hsl
  · obtain ⟨i, hi, rfl⟩ := List.mem_map.1 hv
    exact (hR i (List.mem_range.1 hi)).2
abbrev HtR := (ByteArray × Int × Int) × (Int × Int × Value × List Tm)
instance : Inhabited HtR := ⟨(⟨#[]⟩, 0, 0), (0, 0, undef, [])⟩
abbrev HtR.ht (r : HtR) : Ht := ⟨r.1.1, r.1.2.1, r.1.2.2, .mk r.2.1 r.2.2.1 r.2.2.2.2⟩
theorem read_hts {fuel : Nat} {c : Value} (h : Rd enc W base held fuel 23 [c]) : ∃ l, Hts (hv W) c l ∧ ∀ i : Int, 0 ≤ i → i < l.length → (ht l i).nm.size ≤ 9223372036854775807 := by
  obtain ⟨x, h⟩ := h
  obtain ⟨m, n0, cs, hm, hsl, hx⟩ := read_slice (s := 6) Tryz.underlying23 (by kernel_rfl) (by omega) h
  have each : ∀ i, i < n0 → ∃ r : HtR, cs i = [.string r.1.1, .int .i64 r.1.2.1, .int .i64 r.1.2.2, .int .i64 r.2.1, .int .i64 r.2.2.1, r.2.2.2.1] ∧ Tms (hv W) r.2.2.2.1 r.2.2.2.2 ∧ r.1.1.size ≤ 9223372036854775807 := fun i hi => by
    obtain ⟨_, x, h⟩ := hx i hi
    obtain ⟨xs, k, hk, _, hl, hxl, hf⟩ := DataW.trod_struct Tryz.underlying132 h
    obtain ⟨y0, y1, y2, y3, y4, y5, e⟩ := len6' (hl.trans (by kernel_rfl))
    rw [e] at hf
    have hx3 : xs.length = 4 := hxl
    obtain ⟨_, g0⟩ := fld hf 0 rfl (w := 1) (by kernel_rfl) rfl (by omega)
    obtain ⟨_, g1⟩ := fld hf 1 rfl (w := 1) (by kernel_rfl) rfl (by omega)
    obtain ⟨_, g2⟩ := fld hf 2 rfl (w := 1) (by kernel_rfl) rfl (by omega)
    obtain ⟨x3, g3⟩ := fld hf 3 rfl (w := 3) (by kernel_rfl) rfl (by omega)
    obtain ⟨nm, rfl, hn⟩ := read_str Tryz.underlying9 g0
    obtain ⟨lo, rfl⟩ := read_int Tryz.underlying3 g1
    obtain ⟨hi', rfl⟩ := read_int Tryz.underlying3 g2
    obtain ⟨op, tn, kv, l, e2, hk1⟩ := read_tm (fun k' _ => read_tms k') ⟨x3, g3⟩
    obtain ⟨rfl, rfl, rfl⟩ : y3 = .int .i64 op ∧ y4 = .int .i64 tn ∧ y5 = kv := by simpa using e2
    exact ⟨((nm, lo, hi'), (op, tn, y5, l)), e, hk1, hn⟩
  obtain ⟨R, hR⟩ := choose_lt each
  have hll : ((List.range n0).map fun i => (R i).ht).length = n0 := by simp
  have at_ : ∀ i, i < n0 → ht ((List.range n0).map fun i => (R i).ht) (i : Nat) = (R i).ht := fun i hi => by
    unfold ht; rw [show ((i : Int)).toNat = i by omega]; exact getD_mk hi
  have kat : ∀ i, i < n0 → gv ((List.range n0).map fun i => (R i).2.2.2.1) (i : Nat) = (R i).2.2.2.1 := fun i hi => by
    unfold gv; rw [show ((i : Int)).toNat = i by omega]; exact getD_mk hi
  have to : ∀ i : Int, 0 ≤ i → i < ((List.range n0).map fun i => (R i).ht).length → ∃ j : Nat, j < n0 ∧ i = (j : Nat) := fun i a b => ⟨i.toNat, by rw [hll] at b; omega, by omega⟩
  refine ⟨(List.range n0).map fun i => (R i).ht, ⟨(List.range n0).map fun i => (R i).2.2.2.1, ?_, fun i a b => ?_⟩, fun i a b => ?_⟩
  · rw [hll]
    have e : htcs ((List.range n0).map fun i => (R i).2.2.2.1) ((List.range n0).map fun i => (R i).ht) = (List.range n0).flatMap cs := by
      unfold htcs
      rw [hll]
      refine flat_congr fun i hi => ?_
      unfold htc
      rw [at_ i hi, kat i hi]; exact ((hR i hi).1).symm
    rw [e]; exact hsl
  · obtain ⟨j, hj, rfl⟩ := to i a b
    rw [at_ j hj, kat j hj]; exact (hR j hj).2.1
  · obtain ⟨j, hj, rfl⟩ := to i a b
    rw [at_ j hj]; exact (hR j hj).2.2
end
end Go.Proofs.YtbchkopkgpfkgaaGreatDoor
