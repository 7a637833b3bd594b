/- Keys of maps: structs and arrays of numbers. No program in sight. -/
import Derived.Test.YtgehdgeiikjohaaVcZ
namespace Go.Vc
open Go Go.RowKit
open Classical
theorem sameBits_ints (ks : List IntKind) : ∀ (x : List Int), ((zipV ks x).zip (zipV ks x)).all (fun (p : Value × Value) => Instr.sameBits 9999 p.1 p.2) = true := by
  intro x
  rw [List.all_eq_true]
  intro p hp
  obtain ⟨i, hi, e⟩ := List.getElem_of_mem hp
  rw [List.getElem_zip] at e
  subst e
  have hl : i < (zipV ks x).length := by simpa using hi
  have : ∃ k n, (zipV ks x)[i] = Value.int k n := by
    simp only [zipV, List.getElem_zipWith]
    exact ⟨_, _, rfl⟩
  obtain ⟨k, n, e⟩ := this
  simp only [e]
  rw [show (9999 : Nat) = 9998 + 1 from rfl]; simp [Instr.sameBits]
theorem sameBits_agg (ks : List IntKind) (x : List Int) : Instr.sameBits 10000 (.agg (zipV ks x).toArray) (.agg (zipV ks x).toArray) = true := by
  rw [show (10000 : Nat) = 9999 + 1 from rfl]
  simp only [Instr.sameBits, beq_self_eq_true, Bool.true_and]
  exact sameBits_ints ks x
theorem checkInt {P : Program} {e : TypeId} {k : IntKind} (he : P.underlying e = some (.int k)) (em : Bool) (n : Nat) (a : Int) (w : World) : (Instr.checkKey em (n + 1) e (.int k a)).run P w = .ok () w := by
  rw [Instr.checkKey]; simp [run_underlying he]
theorem checkFields {P : Program} (em : Bool) (w : World) : ∀ (fs : List Field) (ks : List IntKind) (off : Nat) (A as : List Value) (x : List Int), fieldInts P off fs ks → x.length = ks.length → as = A ++ zipV ks x → A.length = off →
    (forIn (m := Sem) fs PUnit.unit fun f _ => do
      if f.name ≠ "_" then do
        Instr.checkKey em 9999 f.type (← part f.type as.toArray f.offset)
        pure (ForInStep.yield PUnit.unit)
      else pure (ForInStep.yield PUnit.unit)).run P w = .ok PUnit.unit w
  | [], _, _, _, _, _, _, _, _, _ => by simp
  | f :: fs, k :: ks, off, A, as, x, h, h1, ha, hA => by
    obtain ⟨f1, f2, f3, f4⟩ := h
    cases x with
    | nil => simp at h1
    | cons p x =>
      have a1 : as.toArray[f.offset]? = some (.int k p) := by rw [ha, f2, ← hA]; simp [zipV]
      have ih := checkFields em w fs ks (off + 1) (A ++ [.int k p]) as x f4 (by simpa using h1) (by rw [ha]; simp [zipV]) (by simp [hA])
      simp only [List.forIn_cons, if_pos f1, Sem.run_bind, run_part_int f3 a1, Result.andThen_ok, checkInt f3 em 9998, Sem.run_pure]
      exact ih
  | _ :: _, [], _, _, _, _, h, _, _, _ => by cases h
theorem KeyT.flat {P : Program} {T : TypeId} {κ : Type} {ks : List IntKind} (hF : FlatInts P T ks) (as : κ → List Int) (hl : ∀ k, (as k).length = ks.length) (inj : ∀ a b, as a = as b → a = b) : KeyT P T (fun k => Value.agg (zipV ks (as k)).toArray) where
  check := fun em k w => by
    rw [show (10000 : Nat) = 9999 + 1 from rfl, Instr.checkKey]
    simp only [Sem.run_bind, run_underlying hF.und, Result.andThen_ok]
    rw [← Array.forIn_toList]
    have := checkFields em w (P.fieldsOf T).toList ks 0 [] (zipV ks (as k)) (as k) hF.flds (hl k) rfl rfl
    simp at this ⊢
    rw [this]; rfl
  eq := fun a b w => by
    have := run_eq_ints hF (as a) (as b) rfl rfl (hl a) (hl b) w
    have e : decide (as a = as b) = @decide (a = b) (propDecidable _) := decide_eq_decide.2 ⟨inj a b, fun h => by rw [h]⟩
    rw [← e]; exact this
  same := fun k => sameBits_agg ks (as k)
  desc := ⟨_, hF.und, fun a b => Or.inl rfl⟩
theorem eqItems_ints {P : Program} {E : TypeId} {k : IntKind} (he : P.underlying E = some (.int k)) (d : Nat) (w : World) : ∀ (n off : Nat) (A B x y : List Int), x.length = n → y.length = n → A.length = off → B.length = off →
    (Op.eqItems (d + 1) E 1 ((A ++ x).map (Value.int k)).toArray ((B ++ y).map (Value.int k)).toArray (List.range' off n)).run P w = .ok (decide (x = y)) w
  | 0, _, _, _, x, y, h1, h2, _, _ => by
    have : x = [] := List.eq_nil_of_length_eq_zero h1
    have : y = [] := List.eq_nil_of_length_eq_zero h2
    subst_vars; simp [Op.eqItems]
  | n + 1, off, A, B, x, y, h1, h2, hA, hB => by
    cases x with
    | nil => simp at h1
    | cons p x =>
      cases y with
      | nil => simp at h2
      | cons q y =>
        have a1 : ((A ++ p :: x).map (Value.int k)).toArray[off * 1]? = some (.int k p) := by rw [← hA]; simp
        have b1 : ((B ++ q :: y).map (Value.int k)).toArray[off * 1]? = some (.int k q) := by rw [← hB]; simp
        simp only [List.range'_succ, Op.eqItems, Sem.run_bind, run_part_int he a1, run_part_int he b1, Result.andThen_ok, run_equalIn_int w d E k k p q he]
        by_cases hpq : p = q
        · subst hpq
          have ih := eqItems_ints he d w n (off + 1) (A ++ [p]) (B ++ [p]) x y (by simpa using h1) (by simpa using h2) (by simp [hA]) (by simp [hB])
          simp only [List.append_assoc, List.cons_append, List.nil_append] at ih
          simp only [beq_self_eq_true, Bool.not_true, Bool.false_eq_true, if_false]
          rw [ih]; simp
        · have : (p == q) = false := by simpa using hpq
          simp [this, hpq]
theorem map_zip (k : IntKind) : ∀ x : List Int, x.map (Value.int k) = zipV (List.replicate x.length k) x
  | [] => rfl
  | p :: x => congrArg (Value.int k p :: ·) (map_zip k x)
theorem KeyT.arr {P : Program} {T E : TypeId} {κ : Type} {k : IntKind} {n : Nat} (hu : P.underlying T = some (.array n E)) (he : P.underlying E = some (.int k)) {z : Value} {y : Nat} (hi : TI P E z 1 y) (as : κ → List Int) (hl : ∀ a, (as a).length = n) (inj : ∀ a b, as a = as b → a = b) :
    KeyT P T (fun a => Value.agg ((as a).map (Value.int k)).toArray) where
  check := fun em a w => by
    rw [show (10000 : Nat) = 9999 + 1 from rfl, Instr.checkKey]
    simp only [Sem.run_bind, run_underlying hu, Result.andThen_ok]
    simp only [Std.Legacy.Range.forIn_eq_forIn_range', Std.Legacy.Range.size, Nat.sub_zero, Nat.add_one_sub_one, Nat.div_one]
    have each : ∀ j ∈ List.range' 0 n, ∃ u : Int, ((as a).map (Value.int k)).toArray[j * 1]? = some (.int k u) := fun j hj => by
      simp only [List.mem_range'_1] at hj
      have hj2 : j < (as a).length := by rw [hl]; omega
      exact ⟨(as a)[j], by simp [hj2]⟩
    generalize List.range' 0 n = is at each
    induction is with
    | nil => simp
    | cons j is ih =>
      obtain ⟨u, hu2⟩ := each j (by simp)
      simp only [List.forIn_cons, Sem.run_bind, run_sizeOf hi.size, Result.andThen_ok, run_part_int he hu2, checkInt he em 9998, Sem.run_pure]
      exact ih (fun y hy => each y (by simp [hy]))
  eq := fun a b w => by
    obtain ⟨i, i1, _, i3, _⟩ := hi.out
    have h1 := run_equalIn_array (P := P) (w := w) 9999 (t := T) (e := E) (n := n) (i := i) ((as a).map (Value.int k)).toArray ((as b).map (Value.int k)).toArray hu i1
    have hc : P.cellsOf E = 1 := by simp [Program.cellsOf, i1, i3]
    rw [hc, List.range_eq_range'] at h1
    have h2 := eqItems_ints he 9998 w n 0 [] [] (as a) (as b) (hl a) (hl b) rfl rfl
    have e : decide (as a = as b) = @decide (a = b) (propDecidable _) := decide_eq_decide.2 ⟨inj a b, fun h => by rw [h]⟩
    rw [← e]
    exact h1.trans h2
  same := fun a => by
    have e := map_zip k (as a)
    rw [e]; exact sameBits_agg _ _
  desc := ⟨_, hu, fun a b => Or.inl rfl⟩
end Go.Vc
