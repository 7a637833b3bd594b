/- Lists of diagrams in memory; what makes a list valid. No program in sight. -/
import Derived.Test.YtgehdgeiikjohaaBdU
namespace Go.Proofs.Ytgehdgeiikjohaa
open Go Go.Vc
open Classical
structure Dg where
  v : Int
  N : List Fk
  r : Int
theorem dg_ext {a b : Dg} (h1 : a.v = b.v) (h2 : a.N = b.N) (h3 : a.r = b.r) : a = b := by
  cases a; cases b; simp at h1 h2 h3; subst h1; subst h2; subst h3; rfl
abbrev dg (D : List Dg) (i : Int) : Dg := D.getD i.toNat ⟨0, [], 0⟩
def dgc (nvs : List Value) (D : List Dg) (i : Nat) : List Value := [.int .i64 (dg D i).v, gv nvs i, .int .i64 (dg D i).r]
def bdls (nvs : List Value) (D : List Dg) : List Value := (List.range D.length).flatMap (dgc nvs D)
theorem flat3_len (f : Nat → List Value) (hf : ∀ i, (f i).length = 3) : ∀ n, ((List.range n).flatMap f).length = n * 3
  | 0 => rfl
  | n + 1 => by
    rw [List.range_succ, List.flatMap_append, List.length_append, flat3_len f hf n]
    simp [hf]; omega
theorem flat3 (f : Nat → List Value) (hf : ∀ i, (f i).length = 3) : ∀ n i, i < n → (((List.range n).flatMap f).drop (i * 3)).take 3 = f i
  | 0, i, h => by omega
  | n + 1, i, h => by
    rw [List.range_succ, List.flatMap_append]
    have hl := flat3_len f hf n
    by_cases e : i = n
    · subst e
      rw [List.drop_append, List.drop_eq_nil_of_le (by omega), hl, Nat.sub_self]
      simp
      exact List.take_of_length_le (by rw [hf]; omega)
    · rw [List.drop_append_of_le_length (by omega), List.take_append_of_le_length (by rw [List.length_drop]; omega)]
      exact flat3 f hf n i (by omega)
theorem bdls_at {nvs : List Value} {D : List Dg} {i : Int} (h0 : 0 ≤ i) (h1 : i < D.length) : ((bdls nvs D).drop (i.toNat * 3)).take 3 = [.int .i64 (dg D i).v, gv nvs i, .int .i64 (dg D i).r] := by
  have h := flat3 (dgc nvs D) (fun _ => rfl) D.length i.toNat (by omega)
  unfold dgc at h
  rw [show ((i.toNat : Nat) : Int) = i by omega] at h
  exact h
theorem bdls_el {nvs : List Value} {D : List Dg} {i : Int} {o : Nat} {u : Value} (h0 : 0 ≤ i) (h1 : i < D.length) (ho : o < 3) (hu : [Value.int .i64 (dg D i).v, gv nvs i, .int .i64 (dg D i).r][o]? = some u) : (bdls nvs D)[i.toNat * 3 + o]? = some u := by
  rw [← hu, ← bdls_at h0 h1, List.getElem?_take, if_pos ho, List.getElem?_drop]
/-- A list of diagrams in memory. -/
structure Bdl (H : HV) (v : Value) (nvs : List Value) (D : List Dg) : Prop where
  sl : SlS 3 H v D.length (bdls nvs D)
  at_ : ∀ i : Int, 0 ≤ i → i < D.length → Fks H (gv nvs i) (dg D i).N
theorem Bdl.mono {H H' : HV} {v : Value} {nvs : List Value} {D : List Dg} (h : Bdl H v nvs D) (s : Vc.Sub H H') : Bdl H' v nvs D := ⟨h.sl.mono s, fun i a b => (h.at_ i a b).mono s⟩
/-- Lists of one, two, three. -/
theorem Bdl.one {H : HV} {b : Nat} {v r : Int} {n : Value} {N : List Fk} (h : Cells H b [.int .i64 v, n, .int .i64 r]) (hN : Fks H n N) : Bdl H (.slice (some ⟨b, 0, none⟩) 1 1) [n] [⟨v, N, r⟩] :=
  ⟨cells_sls h rfl (Nat.le_refl _) (by omega), fun i h0 h1 => by
    have h1 : i < 1 := h1
    have : i = 0 := by omega
    subst this; exact hN⟩
theorem Bdl.two {H : HV} {b : Nat} {v r v2 r2 : Int} {n n2 : Value} {N N2 : List Fk} (h : Cells H b [.int .i64 v, n, .int .i64 r, .int .i64 v2, n2, .int .i64 r2]) (hN : Fks H n N) (hN2 : Fks H n2 N2) :
    Bdl H (.slice (some ⟨b, 0, none⟩) 2 2) [n, n2] [⟨v, N, r⟩, ⟨v2, N2, r2⟩] :=
  ⟨cells_sls h rfl (Nat.le_refl _) (by omega), fun i h0 h1 => by
    have h1 : i < 2 := h1
    have : i = 0 ∨ i = 1 := by omega
    rcases this with rfl | rfl
    · exact hN
    · exact hN2⟩
theorem Bdl.three {H : HV} {b : Nat} {v r v2 r2 v3 r3 : Int} {n n2 n3 : Value} {N N2 N3 : List Fk} (h : Cells H b [.int .i64 v, n, .int .i64 r, .int .i64 v2, n2, .int .i64 r2, .int .i64 v3, n3, .int .i64 r3]) (hN : Fks H n N) (hN2 : Fks H n2 N2) (hN3 : Fks H n3 N3) :
    Bdl H (.slice (some ⟨b, 0, none⟩) 3 3) [n, n2, n3] [⟨v, N, r⟩, ⟨v2, N2, r2⟩, ⟨v3, N3, r3⟩] :=
  ⟨cells_sls h rfl (Nat.le_refl _) (by omega), fun i h0 h1 => by
    have h1 : i < 3 := h1
    have : i = 0 ∨ i = 1 ∨ i = 2 := by omega
    rcases this with rfl | rfl | rfl
    · exact hN
    · exact hN2
    · exact hN3⟩
/- what makes a list valid -/
def dOk (d : Dg) : Prop := Ok d.v d.N d.r
def Vld (D : List Dg) : Prop := ∀ i : Int, 0 ≤ i → i < D.length → dOk (dg D i)
def Sam (D : List Dg) : Prop := ∀ i : Int, 0 ≤ i → i < D.length → (dg D i).v = (dg D 0).v
noncomputable def vE (D : List Dg) : Int := if Vld D then if Sam D then 0 else 2 else 1
theorem vE_1 {D : List Dg} (h : ¬ Vld D) : vE D = 1 := if_neg h
theorem vE_2 {D : List Dg} (h : Vld D) (h2 : ¬ Sam D) : vE D = 2 := by unfold vE; rw [if_pos h, if_neg h2]
theorem vE_0 {D : List Dg} (h : Vld D) (h2 : Sam D) : vE D = 0 := by unfold vE; rw [if_pos h, if_pos h2]
theorem vE_ok {D : List Dg} : vE D = 0 ↔ Vld D ∧ Sam D := by
  refine ⟨fun h => ?_, fun h => vE_0 h.1 h.2⟩
  by_cases h1 : Vld D
  · by_cases h2 : Sam D
    · exact ⟨h1, h2⟩
    · rw [vE_2 h1 h2] at h; omega
  · rw [vE_1 h1] at h; omega
theorem vld1 {v r : Int} {N : List Fk} : Vld [⟨v, N, r⟩] ↔ Ok v N r := ⟨fun h => h 0 (by omega) (by show (0 : Int) < ((1 : Nat) : Int); omega), fun h i h0 h1 => by
  have h1 : i < 1 := h1
  have : i = 0 := by omega
  subst this; exact h⟩
theorem sam1 {v r : Int} {N : List Fk} : Sam [⟨v, N, r⟩] := fun i h0 h1 => by
  have h1 : i < 1 := h1
  have : i = 0 := by omega
  subst this; rfl
end Go.Proofs.Ytgehdgeiikjohaa
