/- Sorting a table of sets, and the table of a map: what they hold. -/
import Derived.Test.YtmkbjhligjnagaaVcA
import Derived.Test.YtmkbjhligjnagaaVcA1
import Derived.Test.YtmkbjhligjnagaaMjE
import Derived.Test.YtmkbjhligjnagaaMhG
import Derived.Test.YtmkbjhligjnagaaTy
namespace Go.Proofs.Ytmkbjhligjnagaa
open Go Go.Vc
open Classical
instance instBe : Inhabited Be := ⟨⟨0, 0, 0⟩⟩
open Go.Sort Go.Lib in
def ordC (x y : Be) : Int := if compareInt y.j x.j ≠ 0 then compareInt y.j x.j else compareInt x.s y.s
open Go.Sort Go.Lib in
theorem cmpI_lib (x y : Int) : compareInt x y = cmpI x y := by unfold compareInt cmpI; rfl
open Go.Sort Go.Lib in
theorem ordC_lx {a b : Be} : ltOf ordC a b = true ↔ Lx a b := by
  have h := ordF_lx (a := a) (b := b)
  have e : ordC a b = ordF a b := by unfold ordC ordF; rw [cmpI_lib, cmpI_lib]
  unfold ltOf
  rw [decide_eq_true_eq, e, ← h]
  omega
open Go.Sort Go.Lib in
theorem ordC_not {a b : Be} : ltOf ordC a b = false ↔ ¬ Lx a b := by
  rw [← ordC_lx]; cases ltOf ordC a b <;> simp
open Go.Sort in
theorem ordC_swo : SWO (ltOf ordC) where
  irrefl x := by rw [ordC_not]; unfold Lx; omega
  trans x y z h1 h2 := by rw [ordC_lx] at *; unfold Lx at *; omega
  ntrans x y z h1 h2 := by rw [ordC_not] at *; unfold Lx at *; omega
open Go.Proofs Go.Sort in
theorem sortB_c {V : HV} {v : Value} {T : List Be} (h : T.length < 4611686018427387904) :
    FnC Try.prog 67 [v, .func (.func 43) #[] #[]] V [Gr 66 3 v T.length (bes T)] (fun u V' σ' => u = .tuple #[] ∧ V' = V ∧ ∃ T' : List Be, T'.Perm T ∧ (∀ i j : Nat, i < j → j < T'.length → ¬ Lx T'[j]! T'[i]!) ∧ σ' = [Gr 66 3 v T.length (bes T')]) :=
  (FnC.sortK (P := Try.prog) (ρ := Try.laysSlF06_f67_ren) Try.laysSlF06_f67 (enc := bec) (k := 3) (E := 66) (fun w => by
      show (isAgg 66).run Try.prog w = _
      simp [isAgg, run_underlying Try.underlying66]) (fun w => Go.Vc.run_sizeOf Try.size66 w) (fun _ => rfl) (fun x v hv => by
      simp [bec] at hv; rcases hv with rfl | rfl | rfl <;> rfl) ordC ordC_swo 43 (enters_of Try.func43 (by kernel_rfl) rfl) (fun blk off size w m os dk _ x y => order_calls x y _)
      ⟨_, Try.func67, by rfl, by rfl⟩ h).mono fun u V' σ' _ hh => by
    obtain ⟨a, b, T', c, d, e⟩ := hh
    exact ⟨a, b, T', c, fun i j hij hj => ordC_not.1 (d i j hij hj), e⟩
/- the table of a map -/
abbrev ent (F : Int × Int → Option Int) (q : Int × Int) : Be := ⟨q.2, q.1, (F q).getD 0⟩
theorem bes_append (l m : List Be) : bes (l ++ m) = bes l ++ bes m := by unfold bes; rw [List.flatMap_append]
theorem tb_step {F : Int × Int → Option Int} {ks : List (Int × Int)} {q : Int × Int} {v : Int} (h : F q = some v) : bes ((ks ++ [q]).map (ent F)) = bes (ks.map (ent F)) ++ [.int .i64 q.2, .int .i64 q.1, .int .i64 v] := by
  rw [List.map_append, bes_append]
  congr 1
  show [Value.int .i64 q.2, .int .i64 q.1, .int .i64 ((F q).getD 0)] = _
  rw [h]; rfl
theorem kbd {ks : List (Int × Int)} (h : ks.Nodup) (hb : ∀ q ∈ ks, (1 ≤ q.1 ∧ q.1 ≤ 32) ∧ (1 ≤ q.2 ∧ q.2 < 64)) : ks.length ≤ 2016 := by
  have h1 : (ks.map fun q => (q.1 - 1).toNat * 63 + (q.2 - 1).toNat).Nodup := by
    refine List.pairwise_map.2 (List.Pairwise.imp_of_mem ?_ h)
    intro a b ha hb' hne e
    have := hb a ha
    have := hb b hb'
    have : (a.1 - 1).toNat = (b.1 - 1).toNat := by omega
    have : (a.2 - 1).toNat = (b.2 - 1).toNat := by omega
    exact hne (Prod.ext (by omega) (by omega))
  have h2 := nodup_le h1 (List.nodup_range (n := 2016)) fun x hx => by
    obtain ⟨q, hq, rfl⟩ := List.mem_map.1 hx
    have := hb q hq
    rw [List.mem_range]; omega
  simpa using h2
/-- A table of sets that holds what a map holds, in order. -/
abbrev TabOk (F : Int × Int → Option Int) (T : List Be) : Prop := ∃ ks : List (Int × Int), ks.Nodup ∧ (∀ q, F q ≠ none ↔ q ∈ ks) ∧ T.Perm (ks.map (ent F)) ∧ ∀ i j : Nat, i < j → j < T.length → ¬ Lx T[j]! T[i]!
end Go.Proofs.Ytmkbjhligjnagaa
