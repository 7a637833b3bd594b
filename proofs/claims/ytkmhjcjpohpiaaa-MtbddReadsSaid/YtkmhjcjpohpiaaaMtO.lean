/- Pieces that are only read during a call. No program in sight. -/
import Derived.Test.YtkmhjcjpohpiaaaWb
namespace Go.Vc
open Go Go.RowKit
open Classical
/-- The pieces lie in the view. -/
def SatIn (V : HV) (σ : Res) : Prop := ∃ hs, Sat σ hs ∧ ∀ h ∈ hs, Sub h V
theorem FnC.lend {P : Program} {f : FuncId} {args : List Value} {V0 : HV} {σ0 σb : Res} {Φ : Value → Res → Prop} (hok : FnOk P f)
    (hF : ∀ V', Sub V0 V' → SatIn V' σb → FnC P f args V' σ0 (fun v _ σ' => Φ v σ')) : FnC P f args V0 (σ0 ++ σb) (fun v _ σ' => ∃ σ1, σ' = σ1 ++ σb ∧ Φ v σ1) := by
  refine ⟨hok, fun w0 hs0 h1 h2 h3 h4 => ?_⟩
  obtain ⟨ha, hb, rfl, sa, sb⟩ := h1.split
  obtain ⟨p1, p2, p3⟩ := List.pairwise_append.1 h2
  let VV : HV := fun b => if dom hb b then hv w0 b else V0 b
  have inb : ∀ h ∈ hb, ∀ b o, h b = some o → dom hb b := fun h hh b o e => ⟨h, hh, by rw [e]; simp⟩
  have v0 : ∀ b o, V0 b = some o → ¬ dom hb b := fun b o e ⟨h, hh, hn⟩ => by
    rcases (h4 h (List.mem_append_right _ hh)).2 b with q | q
    · exact hn q
    · rw [e] at q; cases q
  have s0 : Sub V0 VV := fun b o e => by show (if dom hb b then _ else _) = _; rw [if_neg (v0 b o e)]; exact e
  have sb' : ∀ h ∈ hb, Sub h VV := fun h hh b o e => by show (if dom hb b then _ else _) = _; rw [if_pos (inb h hh b o e)]; exact (h4 h (List.mem_append_right _ hh)).1 b o e
  have sv : Sub VV (hv w0) := fun b o e => by
    have e : (if dom hb b then hv w0 b else V0 b) = some o := e
    split at e
    · exact e
    · exact h3 b o e
  refine ((hF VV s0 ⟨hb, sb, sb'⟩).run w0 ha sa p1 sv fun h hh => ⟨(h4 h (List.mem_append_left _ hh)).1, fun b => ?_⟩).mono ?_
  · cases e : h b with
    | none => exact .inl rfl
    | some o =>
      right
      have hnd : ¬ dom hb b := fun ⟨x, hx, hn⟩ => by
        rcases p3 h hh x hx b with q | q
        · rw [e] at q; cases q
        · exact hn q
      show (if dom hb b then _ else _) = _
      rw [if_neg hnd]
      rcases (h4 h (List.mem_append_left _ hh)).2 b with q | q
      · rw [e] at q; cases q
      · exact q
  rintro e w' ⟨v, V1, σ1, rfl, hΦ, m⟩
  obtain ⟨hs1, t1, t2, t3⟩ := m.own
  let V2 : HV := fun b => if dom hb b then none else V1 b
  have v21 : Sub V2 V1 := fun b o e => by
    have e : (if dom hb b then none else V1 b) = some o := e
    split at e
    · cases e
    · exact e
  have dapp : ∀ b, ¬ dom (ha ++ hb) b → ¬ dom ha b ∧ ¬ dom hb b := fun b hn => ⟨fun ⟨h, hh, q⟩ => hn ⟨h, List.mem_append_left _ hh, q⟩, fun ⟨h, hh, q⟩ => hn ⟨h, List.mem_append_right _ hh, q⟩⟩
  refine ⟨v, V2, σ1 ++ σb, rfl, ⟨σ1, rfl, hΦ⟩, m.os, m.tape, m.output, m.size, fun b hb' hd => m.frame b hb' (dapp b hd).1, fun b o e => ?_, v21.trans m.view, fun b hb' hd => ?_, hs1 ++ hb, t1.append sb, ?_, ?_⟩
  · show (if dom hb b then none else V1 b) = some o
    rw [if_neg (v0 b o e)]
    exact m.sub b o (s0 b o e)
  · show (if dom hb b then none else V1 b) = V0 b
    rw [if_neg (dapp b hd).2, m.vold b hb' (dapp b hd).1]
    show (if dom hb b then _ else V0 b) = V0 b
    rw [if_neg (dapp b hd).2]
  · refine List.pairwise_append.2 ⟨t2, p2, fun x hx h hh b => ?_⟩
    cases e : h b with
    | none => exact .inr rfl
    | some o =>
      left
      have := m.sub b o (sb' h hh b o e)
      rcases (t3 x hx).2.1 b with q | q
      · exact q
      · rw [this] at q; cases q
  · intro h hh
    rcases List.mem_append.1 hh with hh | hh
    · refine ⟨(t3 h hh).1, fun b => ?_, fun b hb' hn => ?_⟩
      · rcases (t3 h hh).2.1 b with q | q
        · exact .inl q
        · right
          show (if dom hb b then none else V1 b) = none
          split
          · rfl
          · exact q
      · obtain ⟨x, hx, q⟩ := (t3 h hh).2.2 b hb' hn
        exact ⟨x, List.mem_append_left _ hx, q⟩
    · refine ⟨(sb' h hh).trans (m.sub.trans m.view), fun b => ?_, fun b _ hn => ⟨h, List.mem_append_right _ hh, hn⟩⟩
      cases e : h b with
      | none => exact .inl rfl
      | some o =>
        right
        show (if dom hb b then none else V1 b) = none
        rw [if_pos (inb h hh b o e)]
theorem FnC.drop {P : Program} {f : FuncId} {args : List Value} {V0 : HV} {σ0 : Res} {Φ : Value → HV → Res → Prop} (h : FnC P f args V0 σ0 (fun v V' σ' => ∃ σ1 τ, σ'.Perm (σ1 ++ τ) ∧ Φ v V' σ1)) : FnC P f args V0 σ0 Φ :=
  ⟨h.ok, fun w0 hs0 h1 h2 h3 h4 => (h.run w0 hs0 h1 h2 h3 h4).mono fun _ _ ⟨v, V', σ', h5, ⟨σ1, τ, hp, hΦ⟩, h7⟩ => ⟨v, V', σ1, h5, hΦ, h7.drop hp⟩⟩
theorem SatIn.cons {V : HV} {A : Asrt} {σ : Res} (h : SatIn V (A :: σ)) : (∃ x, A x ∧ Sub x V) ∧ SatIn V σ := by
  obtain ⟨hs, h1, h2⟩ := h
  match hs, h1 with
  | x :: hs, h1 => exact ⟨⟨x, h1.1, h2 x (List.mem_cons_self ..)⟩, hs, h1.2, fun y hy => h2 y (List.mem_cons_of_mem _ hy)⟩
theorem SatIn.arr {V : HV} {T b : Nat} {cs : List Value} {σ : Res} (h : SatIn V (Arr T b cs :: σ)) : Cells V b cs ∧ SatIn V σ := by
  obtain ⟨⟨x, hx, hs⟩, h2⟩ := h.cons
  have hx : x = one b (.cells cs.toArray T (0, 0)) := hx
  subst hx
  exact ⟨⟨T, (0, 0), hs b _ (by simp [one])⟩, h2⟩
theorem SatIn.gr {V : HV} {E n : Nat} {v : Value} {xs : List Value} {σ : Res} (h : SatIn V (Gr E 1 v n xs :: σ)) : Sl V v xs ∧ SatIn V σ := by
  obtain ⟨⟨x, hx, hs⟩, h2⟩ := h.cons
  exact ⟨hx.sl.mono hs, h2⟩
theorem SatIn.grs {V : HV} {E s n : Nat} {v : Value} {xs : List Value} {σ : Res} (h : SatIn V (Gr E s v n xs :: σ)) : SlS s V v n xs ∧ SatIn V σ := by
  obtain ⟨⟨x, hx, hs⟩, h2⟩ := h.cons
  exact ⟨hx.sls.mono hs, h2⟩
theorem mem_start {V0 : HV} {hs0 : List HV} {w0 : World} {σ0 : Res} (h1 : Sat σ0 hs0) (h2 : hs0.Pairwise Disj) (h3 : Vc.Sub V0 (hv w0)) (h4 : ∀ h ∈ hs0, Vc.Sub h (hv w0) ∧ Disj h V0) : Mem ⟨w0, V0, dom hs0⟩ V0 σ0 w0 :=
  ⟨rfl, rfl, rfl, Nat.le_refl _, fun _ _ _ => rfl, .refl _, h3, fun _ _ _ => rfl, hs0, h1, h2, fun h hh => ⟨(h4 h hh).1, (h4 h hh).2, fun b _ hne => ⟨h, hh, hne⟩⟩⟩
end Go.Vc
