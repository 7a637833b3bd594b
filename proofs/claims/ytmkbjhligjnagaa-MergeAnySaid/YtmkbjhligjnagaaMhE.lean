/- Helpers of the walks over tables of sets. No program in sight. -/
import Derived.Test.YtmkbjhligjnagaaMhD
namespace Go.Proofs.Ytmkbjhligjnagaa
open Go Go.Vc
theorem qv_to {P : Program} {C : Cx} {o : Oper} {env : Env} {V : HV} {σ : Res} {v v' : Value} (e : v = v') (h : QV P C o env V σ v) : QV P C o env V σ v' := e ▸ h
theorem mset {C : List Int} {n : Nat} {z : Int} : (C.map (Value.int .i64)).set n (.int .i64 z) = (C.set n z).map (Value.int .i64) := by
  rw [List.map_set]
theorem giset {C : List Int} {i r z : Int} (h0 : 0 ≤ i) (h1 : i < C.length) (hr : 0 ≤ r) : gi (C.set i.toNat z) r = if r = i then z else gi C r := by
  unfold gi
  rw [List.getD_eq_getElem?_getD, List.getD_eq_getElem?_getD]
  by_cases e : r = i
  · subst e; rw [if_pos rfl, List.getElem?_set_self (by omega)]; rfl
  · rw [if_neg e, List.getElem?_set_ne (by omega)]
theorem st_step {L : List (List Int)} {C : List Int} {s z : Int} (h0 : 1 ≤ s) (h1 : s < C.length) (hs : ∀ x : Int, 1 ≤ x → x < s → gi C x = grpV L x) (hz : z = grpV L s) : ∀ x : Int, 1 ≤ x → x < s + 1 → gi (C.set s.toNat z) x = grpV L x := fun x a b => by
  rw [giset (by omega) h1 (by omega)]
  by_cases e : x = s
  · rw [if_pos e, e, hz]
  · rw [if_neg e]; exact hs x a (by omega)
theorem ints_cells {H : HV} {b n c : Nat} {xs : List Int} {k : IntKind} (h : Cells H b (xs.map (Value.int k))) (hn : n = xs.length) (hc : n ≤ c) (hm : c ≤ 9223372036854775807) : Ints k H (.slice (some ⟨b, 0, none⟩) n c) xs := by
  subst hn
  obtain ⟨T, fz, h⟩ := h
  refine ⟨some ⟨b, 0, none⟩, c, by rw [List.length_map], by rw [List.length_map]; exact hc, hm, fun _ => ⟨b, 0, _, T, fz, rfl, h, fun i _ => by simp⟩⟩
abbrev pt (b : Nat) : Value := .pointer (some ⟨b, 0, none⟩)
end Go.Proofs.Ytmkbjhligjnagaa
