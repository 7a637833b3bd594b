/- Slices whose elements take several cells; elements of arrays by a number that is not written out. No program in sight. -/
import Derived.Test.YtgehdgeiikjohaaVcV
import Derived.Test.YtgehdgeiikjohaaVcP
namespace Go.Vc
open Go Go.RowKit
/-- v is a slice of n elements of s cells each; the cells are xs. -/
def SlS (s : Nat) (H : HV) (v : Value) (n : Nat) (xs : List Value) : Prop :=
  ∃ a cap, v = .slice a n cap ∧ n ≤ cap ∧ cap ≤ 9223372036854775807 ∧ xs.length = n * s ∧
    (n ≠ 0 → ∃ b off cs T fz, a = some ⟨b, off, none⟩ ∧ H b = some (.cells cs T fz) ∧ ∀ i, i < n * s → cs[off + i]? = xs[i]?)
theorem SlS.mono {s n : Nat} {H H' : HV} {v : Value} {xs : List Value} (h : SlS s H v n xs) (q : Sub H H') : SlS s H' v n xs := by
  obtain ⟨a, cap, h1, h2, h3, h4, h5⟩ := h
  refine ⟨a, cap, h1, h2, h3, h4, fun hn => ?_⟩
  obtain ⟨b, off, cs, T, fz, e1, e2, e3⟩ := h5 hn
  exact ⟨b, off, cs, T, fz, e1, q _ _ e2, e3⟩
theorem SlS.bound {s n : Nat} {H : HV} {v : Value} {xs : List Value} (h : SlS s H v n xs) : n ≤ 9223372036854775807 := by obtain ⟨_, _, _, _, _, _⟩ := h; omega
theorem SlS.cells {s n : Nat} {H : HV} {v : Value} {xs : List Value} (h : SlS s H v n xs) : v.cells = [v].toArray := by obtain ⟨_, _, h, _⟩ := h; rw [h]; rfl
theorem SlS.one {s n : Nat} {H : HV} {v : Value} {xs : List Value} (h : SlS s H v n xs) : v.oneCell' = true := by obtain ⟨_, _, h, _⟩ := h; rw [h]; rfl
theorem SlS.nil {s : Nat} {H : HV} : SlS s H (.slice none 0 0) 0 [] := ⟨none, 0, rfl, Nat.le_refl _, Nat.zero_le _, by simp, fun h => absurd rfl h⟩
/-- The address of the cell o of the element i. -/
def fptr (v : Value) (i : Int) (s o : Nat) : Value := match v with | .slice (some a) _ _ => .pointer (some (a.add (i.toNat * s + o))) | _ => undef
theorem add_none (b off k : Nat) : (⟨b, off, none⟩ : Addr).add k = ⟨b, off + k, none⟩ := by
  unfold Addr.add; split
  · rename_i h; subst h; rfl
  · rfl
theorem cells_sls {H : HV} {b n s : Nat} {cs : List Value} {c : Nat} (h : Cells H b cs) (hn : cs.length = n * s) (hc : n ≤ c) (hm : c ≤ 9223372036854775807) : SlS s H (.slice (some ⟨b, 0, none⟩) n c) n cs := by
  obtain ⟨T, fz, h⟩ := h
  exact ⟨_, c, rfl, hc, hm, hn, fun _ => ⟨b, 0, cs.toArray, T, fz, rfl, h, fun i _ => by simp⟩⟩
section
variable {P : Program} {C : Cx} {N : Nat} {K : K3} {Q : Ex → K3} {env : Env} {V : HV} {σ : Res} {ops : Array Oper} {rest : List Oper} {w : World}
variable {d k b n s : Nat} {dst : Option Nat} {x y z : Operand} {t T T' T2 E : TypeId} {pos : String} {af : Array Edge} {g : Option (Nat × Bool)} {v : Value} {xs : List Value}

theorem SlS.at {H : HV} (h : SlS s H v n xs) {i : Int} (h0 : 0 ≤ i) (h1 : i < n) : ∃ b off cs T fz c, v = .slice (some ⟨b, off, none⟩) n c ∧ n ≤ c ∧ H b = some (.cells cs T fz) ∧ eptr v i s = .pointer (some ⟨b, off + i.toNat * s, none⟩) ∧
    (∀ o, fptr v i s o = .pointer (some ⟨b, off + (i.toNat * s + o), none⟩)) ∧ ∀ o, o < s → cs[off + (i.toNat * s + o)]? = xs[i.toNat * s + o]? := by
  obtain ⟨a, c, hv, hc, _, hl, hh⟩ := h
  have hlt : i.toNat < n := by omega
  obtain ⟨b, off, cs, T, fz, rfl, e2, e3⟩ := hh (by omega)
  refine ⟨b, off, cs, T, fz, c, hv, hc, e2, ?_, fun o => ?_, fun o ho => e3 _ ?_⟩
  · rw [hv]; simp only [eptr]; rw [add_none]
  · rw [hv]; simp only [fptr]; rw [add_none]
  · have : (i.toNat + 1) * s ≤ n * s := Nat.mul_le_mul_right s hlt
    rw [Nat.add_mul, Nat.one_mul] at this; omega
theorem qv_lenSS {H : HV} {at_ : TypeId} (hT : P.underlying at_ = some (.slice E)) (hx : ev env x = v) (hv : SlS s H v n xs) :
    QV P C ⟨dst, .call { callee := .builtin .len, args := #[x], argTypes := #[at_] }, t, pos, af, g⟩ env V σ (.int .i64 n) := by
  obtain ⟨a, c, h, _⟩ := hv; exact qv_len hT hx h
theorem qv_lenGr {m : Nat} {E2 at_ : TypeId} (hT : P.underlying at_ = some (.slice E)) (hx : ev env x = v) (hk : σ[k]? = some (Gr E2 s v m xs)) :
    QV P C ⟨dst, .call { callee := .builtin .len, args := #[x], argTypes := #[at_] }, t, pos, af, g⟩ env V σ (.int .i64 m) := fun w hm => by
  obtain ⟨hs, s1, _, _⟩ := hm.own
  obtain ⟨h, _, hg⟩ := s1.get hk
  obtain ⟨a, c, e, _⟩ := hg.shape
  exact qv_len hT hx e w hm
theorem qv_ias {i : Int} {kk : IntKind} (hT : P.underlying T = some (.slice E)) (hS : SizeIs P E s) (hx : ev env x = v) (hv : SlS s V v n xs) (hy : ev env y = .int kk i) (h0 : 0 ≤ i) (h1 : i < n) :
    QV P C ⟨dst, .indexAddr T x y, t, pos, af, g⟩ env V σ (eptr v i s) := qv_run fun w hm => by
  obtain ⟨b, off, cs, T', fz, c, e, _⟩ := (hv.mono hm.view).at h0 h1
  simp only [execOp, hx, hy, e, Instr.indexAt, asIntOf, underlying, eptr]
  simp [hT, run_sizeOf hS, h0, h1]
theorem qv_fas {i : Int} {f o : Nat} (hF : FieldIs P T f o) (hx : ev env x = eptr v i s) (hv : SlS s V v n xs) (h0 : 0 ≤ i) (h1 : i < n) : QV P C ⟨dst, .fieldAddr T x f, t, pos, af, g⟩ env V σ (fptr v i s o) := by
  obtain ⟨b, off, cs, T', fz, c, e, _, _, e3, e4, _⟩ := hv.at h0 h1
  rw [e4 o, ← Nat.add_assoc]
  exact qv_fa hF (hx.trans e3)
theorem qv_lds {i : Int} {vs : List Value} (hA : AggIs P T s) (hx : ev env x = eptr v i s) (hv : SlS s V v n xs) (h0 : 0 ≤ i) (h1 : i < n) (hs : (xs.drop (i.toNat * s)).take s = vs) : QV P C ⟨dst, .load T x, t, pos, af, g⟩ env V σ (.agg vs.toArray) := qv_run fun w hm => by
  obtain ⟨b, off, cs, T', fz, c, e, _, e2, e3, _, e5⟩ := (hv.mono hm.view).at h0 h1
  obtain ⟨_, _, _, _, _, hl, _⟩ := hv
  have hlt : (i.toNat + 1) * s ≤ n * s := Nat.mul_le_mul_right s (by omega)
  rw [Nat.add_mul, Nat.one_mul] at hlt
  have hvl : vs.length = s := by rw [← hs, List.length_take, List.length_drop, hl]; omega
  have h0' : w.heap[b]? = some (.cells cs T' fz) := e2
  have h : w.heap[b]? = some (.cells cs.toList.toArray T' fz) := by simpa using h0'
  have hcs : (cs.toList.drop (off + i.toNat * s)).take s = vs := by
    rw [← hs]
    apply List.ext_getElem?
    intro j
    rw [List.getElem?_take, List.getElem?_take]
    split
    · rename_i hj
      rw [List.getElem?_drop, List.getElem?_drop, ← e5 j hj]
      simp [Nat.add_assoc]
    · rfl
  rw [e3] at hx
  simp [execOp, hx, Instr.loadAt, Instr.sureAddr, run_loadAgg hA h hcs hvl]
theorem qv_ldf {i : Int} {o : Nat} {u : Value} (hP : Plain P T) (hx : ev env x = fptr v i s o) (hv : SlS s V v n xs) (h0 : 0 ≤ i) (h1 : i < n) (ho : o < s) (hu : xs[i.toNat * s + o]? = some u) : QV P C ⟨dst, .load T x, t, pos, af, g⟩ env V σ u := qv_run fun w hm => by
  obtain ⟨b, off, cs, T', fz, c, e, _, e2, _, e4, e5⟩ := (hv.mono hm.view).at h0 h1
  rw [e4 o] at hx
  have hb : w.heap[b]? = some (.cells cs T' fz) := e2
  have hcell : w.cell? ⟨b, off + (i.toNat * s + o), none⟩ = some u := by
    unfold World.cell?
    simp only [hb]
    rw [← hu, ← e5 o ho]
    rfl
  simp [execOp, hx, Instr.loadAt, Instr.sureAddr, loadVar, run_plain hP, load, Sem.run, hcell]
/-- What one owns is given away for good. -/
theorem Gr.sls {E : TypeId} {m : Nat} {h : HV} (hg : Gr E s v m xs h) : SlS s h v m xs := by
  obtain ⟨hl, hg⟩ := hg
  rcases hg with ⟨rfl, rfl, _⟩ | ⟨gb, cap, cur, rfl, rfl, q1, q2, q3, q4⟩
  · have : xs = [] := List.eq_nil_of_length_eq_zero (by simpa using hl)
    subst this; exact SlS.nil
  · refine ⟨_, cap, rfl, q1, by simp only [maxLen] at q2; omega, hl, fun _ => ⟨gb, 0, cur, E, (0, 0), rfl, by simp [one], fun i hi => ?_⟩⟩
    rw [← q4, List.getElem?_take, if_pos hi]; simp
theorem ops_freezeS {l : List Oper} {σr : Res} (hp : σ.Perm (Gr E s v n xs :: σr)) (h : ∀ V', Sub V V' → SlS s V' v n xs → Ops P C N ops K l env V' σr) : Ops P C N ops K l env V σ := fun a w hf hm => by
  obtain ⟨x, hx, hd, m'⟩ := hm.freeze hp
  exact h _ (sub_plus_left _ _) (hx.sls.mono (sub_plus_right hd)) a w hf m'
theorem vc_freezeS {c : Code} {σr : Res} (hp : σ.Perm (Gr E s v n xs :: σr)) (h : ∀ V', Sub V V' → SlS s V' v n xs → VC P C N c K Q env V' σr) : VC P C N c K Q env V σ := fun a w hf hm => by
  obtain ⟨x, hx, hd, m'⟩ := hm.freeze hp
  exact h _ (sub_plus_left _ _) (hx.sls.mono (sub_plus_right hd)) a w hf m'
/- arrays -/
theorem qv_iav {b off : Nat} {i : Int} {kk : IntKind} {n : Nat} (hu : P.underlying T = some (.array n E)) (hS : SizeIs P E 1) (hx : ev env x = .pointer (some ⟨b, off, none⟩)) (hy : ev env y = .int kk i) (h0 : 0 ≤ i) (h1 : i < n) :
    QV P C ⟨dst, .indexAddr T x y, t, pos, af, g⟩ env V σ (.pointer (some ⟨b, off + i.toNat, none⟩)) := qv_iaa hu hS hx hy h0 h1 (by rw [Nat.mul_one])
theorem qv_nilck {b off : Nat} (hx : ev env x = .pointer (some ⟨b, off, none⟩)) : QV P C ⟨dst, .nilCheck x, t, pos, af, g⟩ env V σ (.pointer (some ⟨b, off, none⟩)) := qv_run fun w _ => by
  simp [execOp, hx]
theorem ops_mapins {κ α : Type} {ek : κ → Value} {vl : α → Value} {f : κ → Option α} {key : κ} {KT : TypeId} {v : α} (hT : P.underlying T = some (.map KT E)) (hK : KeyT P KT ek) (hx : ev env x = .map (some b)) (hy : ev env y = ek key) (hz : ev env z = vl v) (hk : σ[k]? = some (Mf b ek vl f))
    (h : Ops P C N ops K rest env V (σ.set k (Mf b ek vl (setF f key v)))) : Ops P C N ops K (⟨none, .insert T x y z, t, pos, af, none⟩ :: rest) env V σ := fun a w hf hm => by
  refine wpList_plain rfl fun K' hK' => ?_
  unfold Oper.wp
  obtain ⟨w', e, hm'⟩ := run_mapUpdate (key := key) (v := v) hm hT hK hk
  have e' : (execOp (ev env) ⟨none, .insert T x y z, t, pos, af, none⟩).run P w = .ok .skip w' := by
    simp [execOp, hx, hy, hz, e]
  rw [hf.eval, e']
  exact hK' _ _ (h _ _ (hf.put none _) hm')
theorem arr_at {kk : IntKind} {ys : List Int} {i : Int} (h0 : 0 ≤ i) (h1 : i < ys.length) : (ys.map (Value.int kk))[0 + i.toNat]? = some (.int kk (gi ys i)) := by rw [Nat.zero_add]; exact idx_ints h0 h1
theorem ops_gr1 {l : List Oper} {m : Nat} {E2 : TypeId} (hk : σ[k]? = some (Gr E2 s v m xs)) (h : v.oneCell' = true → Ops P C N ops K l env V σ) : Ops P C N ops K l env V σ := fun a w hf hm => by
  obtain ⟨hs, s1, _, _⟩ := hm.own
  obtain ⟨q, _, hg⟩ := s1.get hk
  obtain ⟨a', c, e, _⟩ := hg.shape
  exact h (by rw [e]; rfl) a w hf hm
end
end Go.Vc
