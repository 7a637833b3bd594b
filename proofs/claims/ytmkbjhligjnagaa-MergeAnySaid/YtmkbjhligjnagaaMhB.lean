/- Tables of sets: entries, sums over sets, and what a table that obeys the conditions proves. No program in sight. -/
import Derived.Test.YtmkbjhligjnagaaMhA
namespace Go.Proofs.Ytmkbjhligjnagaa
open Go Go.Vc
/-- An entry. -/
structure Be where
  s : Int
  j : Int
  v : Int
theorem Be.eq {a b : Be} (h1 : a.s = b.s) (h2 : a.j = b.j) (h3 : a.v = b.v) : a = b := by
  cases a; cases b; cases h1; cases h2; cases h3; rfl
abbrev be (N : List Be) (i : Int) : Be := N.getD i.toNat ⟨0, 0, 0⟩
def bec (n : Be) : List Value := [.int .i64 n.s, .int .i64 n.j, .int .i64 n.v]
def bes (N : List Be) : List Value := N.flatMap bec
theorem bes_get : ∀ (N : List Be) (i : Nat), i < N.length → ((bes N).drop (i * 3)).take 3 = bec (N.getD i ⟨0, 0, 0⟩)
  | a :: l, 0, _ => rfl
  | a :: l, i + 1, h => by
    show ((bec a ++ bes l).drop ((i + 1) * 3)).take 3 = _
    rw [show (i + 1) * 3 = (bec a).length + i * 3 by show _ = 3 + i * 3; omega, List.drop_length_add_append]
    exact bes_get l i (by simpa using h)
theorem bes_at {N : List Be} {i : Int} (_h0 : 0 ≤ i) (h1 : i < N.length) : ((bes N).drop (i.toNat * 3)).take 3 = [.int .i64 (be N i).s, .int .i64 (be N i).j, .int .i64 (be N i).v] := bes_get N i.toNat (by omega)
theorem bes_el {N : List Be} {i : Int} {o : Nat} {u : Value} (h0 : 0 ≤ i) (h1 : i < N.length) (ho : o < 3) (hu : [Value.int .i64 (be N i).s, .int .i64 (be N i).j, .int .i64 (be N i).v][o]? = some u) : (bes N)[i.toNat * 3 + o]? = some u := by
  rw [← hu, ← bes_at h0 h1, List.getElem?_take, if_pos ho, List.getElem?_drop]
def Bes (H : HV) (v : Value) (N : List Be) : Prop := SlS 3 H v N.length (bes N)
theorem Bes.mono {H H' : HV} {v : Value} {N : List Be} (h : Bes H v N) (s : Vc.Sub H H') : Bes H' v N := SlS.mono h s
theorem bes_recs {H : HV} {v : Value} {n : Nat} {R : Nat → Int × Int × Int} (h : SlS 3 H v n ((List.range n).flatMap fun i => [.int .i64 (R i).1, .int .i64 (R i).2.1, .int .i64 (R i).2.2])) :
    Bes H v ((List.range n).map fun i => (⟨(R i).1, (R i).2.1, (R i).2.2⟩ : Be)) := by
  unfold Bes bes
  rw [List.length_map, List.length_range, List.flatMap_map]
  exact h
/- bits -/
abbrev bt (S r : Int) : Prop := S / 2 ^ r.toNat % 2 = 1
set_option synthInstance.maxSize 4096 in
set_option synthInstance.maxHeartbeats 400000 in
theorem sm8 : ∀ S : Nat, S < 64 → 0 < S → ∃ i : Nat, i < 6 ∧ (bt S i ∧ ∀ C : Nat, C < 64 → bt C i → andV C (lw S) ≠ 0) := by decide +kernel
set_option synthInstance.maxSize 4096 in
set_option synthInstance.maxHeartbeats 400000 in
theorem sm9 : ∀ S : Nat, S < 64 → ∀ C : Nat, C < 64 → (∀ i : Nat, i < 6 → bt C i → bt S i) → aniV C S = 0 ∧ C ≤ S := by decide +kernel
set_option synthInstance.maxSize 4096 in
set_option synthInstance.maxHeartbeats 400000 in
theorem sm10 : ∀ S : Nat, S < 64 → ∀ C : Nat, C < 64 → (0 ≤ aniV S C ∧ aniV S C ≤ S) ∧ ∀ i : Nat, i < 6 → (bt (aniV S C) i ↔ bt S i ∧ ¬ bt C i) := by decide +kernel
set_option synthInstance.maxSize 4096 in
set_option synthInstance.maxHeartbeats 400000 in
theorem sm11 : ∀ S : Nat, S < 64 → ∀ C : Nat, C < 64 → (∀ i : Nat, i < 6 → (bt S i ↔ bt C i)) → S = C := by decide +kernel
theorem sm12 : ∀ b0 b1 b2 b3 b4 b5 : Bool, (let C : Int := b0.toNat + 2 * b1.toNat + 4 * b2.toNat + 8 * b3.toNat + 16 * b4.toNat + 32 * b5.toNat
    (0 ≤ C ∧ C < 64) ∧ (bt C 0 ↔ b0 = true) ∧ (bt C 1 ↔ b1 = true) ∧ (bt C 2 ↔ b2 = true) ∧ (bt C 3 ↔ b3 = true) ∧ (bt C 4 ↔ b4 = true) ∧ (bt C 5 ↔ b5 = true)) := by decide +kernel
theorem sm13 : ∀ n : Nat, n < 7 → ∀ i : Nat, i < 6 → (bt ((2 : Int) ^ n - 1) i ↔ i < n) := by decide +kernel
set_option synthInstance.maxSize 4096 in
theorem sm14 : ∀ n : Nat, n < 7 → ∀ S : Nat, S < 64 → (∀ i : Nat, i < 6 → bt S i → i < n) → (S : Int) < 2 ^ n := by decide +kernel
end Go.Proofs.Ytmkbjhligjnagaa
