/- Dropping and giving away what a walk owns; nil slices. No program in sight. -/
import Derived.Test.YtgehdgeiikjohaaVcM
namespace Go.Vc
open Go
section
variable {P : Program} {C : Cx} {N : Nat} {ops : Array Oper} {K : K3} {Q : Ex → K3} {env : Env} {V : HV} {σ : Res}

theorem Mem.drop {w : World} {σq τ : Res} (m : Mem C V σ w) (hp : σ.Perm (σq ++ τ)) : Mem C V σq w := m.weaken (Sub.refl _) m.sub m.vold hp
/-- What one owns is let go. -/
theorem vc_drop {c : Code} (σq τ : Res) (hp : σ.Perm (σq ++ τ)) (h : VC P C N c K Q env V σq) : VC P C N c K Q env V σ := fun a w hf hm => h a w hf (hm.drop hp)
theorem vc_freezeG {c : Code} {v : Value} {E n : Nat} {xs : List Value} {σr : Res} (hp : σ.Perm (Gr E 1 v n xs :: σr)) (h : ∀ V', Sub V V' → Sl V' v xs → VC P C N c K Q env V' σr) : VC P C N c K Q env V σ := fun a w hf hm => by
  obtain ⟨x, hx, hd, m'⟩ := hm.freeze hp
  exact h _ (sub_plus_left _ _) (hx.sl.mono (sub_plus_right hd)) a w hf m'
theorem Sl.nil : Sl V (.slice none 0 0) [] := ⟨none, 0, rfl, Nat.le_refl _, Nat.zero_le _, fun h => absurd rfl h⟩
theorem Ints.nil {k : IntKind} : Ints k V (.slice none 0 0) [] := Sl.nil
theorem Mat.nil {k : IntKind} : Mat k V (.slice none 0 0) [] [] := ⟨Sl.nil, rfl, fun i h0 h1 => absurd h1 (by simp; omega)⟩
/-- A guarded operation that is wanted. -/
theorem ops_want {rest : List Oper} {d : Option Nat} {op : Op} {t : TypeId} {pos : String} {af : Array Edge} {g : Option (Nat × Bool)} (hw : wantedE ⟨d, op, t, pos, af, g⟩ ops env = true)
    (h : Ops P C N ops K (⟨d, op, t, pos, af, none⟩ :: rest) env V σ) : Ops P C N ops K (⟨d, op, t, pos, af, g⟩ :: rest) env V σ := fun a w hf hm => by
  have h := h a w hf hm
  unfold wpList at h ⊢
  rw [hf.yielded] at h ⊢
  rw [if_pos (show Region.wanted _ (yieldE ops env) = true from hw)]
  rw [if_pos (show Region.wanted ⟨d, op, t, pos, af, none⟩ (yieldE ops env) = true from rfl)] at h
  exact h
/-- A new variable. -/
theorem ops_alloc {rest : List Oper} {d : Nat} {T t : TypeId} {pos : String} {af : Array Edge} {s y : Nat} {z0 : Value} {cs : List Value} (hi : TI P T z0 s y) (hc : z0.cells = cs.toArray) (h : ∀ b, Ops P C N ops K rest (Go.Vc.upd N env d (.pointer (some ⟨b, 0, none⟩))) V (σ ++ [Arr T b cs])) :
    Ops P C N ops K (⟨some d, .alloc T, t, pos, af, none⟩ :: rest) env V σ := fun a w hf hm => by
  refine wpList_plain rfl fun K' hK' => ?_
  unfold Oper.wp
  obtain ⟨i, i1, i2, i3, i4⟩ := hi.out
  have e : (execOp (ev env) ⟨some d, .alloc T, t, pos, af, none⟩).run P w = .ok (.value (.pointer (some ⟨w.heap.size, 0, none⟩))) (w.alloc (.cells cs.toArray T)) := by
    simp [execOp, Instr.alloc, zeroValue, typeInfo, i1, i2, newVar, run_newRow, hc]
  rw [hf.eval, e]
  exact hK' _ _ (h w.heap.size _ _ (hf.put (some d) _) (hm.alloc _ _ rfl))
theorem ops_freeze {l : List Oper} {b : Nat} {o : Obj} {σr : Res} (hp : σ.Perm (Blk b o :: σr)) (h : ∀ V', Sub V V' → V' b = some o → Ops P C N ops K l env V' σr) : Ops P C N ops K l env V σ := fun a w hf hm => by
  obtain ⟨x, hx, hd, m'⟩ := hm.freeze hp
  have hx : x = one b o := hx
  exact h _ (sub_plus_left _ _) (sub_plus_right hd b o (by rw [hx]; simp [one])) a w hf m'
theorem sl_cells {b n c : Nat} {cs : List Value} (h : Cells V b cs) (hn : n = cs.length) (hc : n ≤ c) (hm : c ≤ 9223372036854775807) : Sl V (.slice (some ⟨b, 0, none⟩) n c) cs := by
  obtain ⟨T, fz, h⟩ := h
  exact ⟨_, c, by rw [hn], by omega, hm, fun _ => ⟨b, 0, cs.toArray, T, fz, rfl, h, fun i _ => by simp⟩⟩
/-- A call that only computes, of arguments some of which one owns. -/
theorem qv_call_in {dst : Option Nat} {x : Operand} {l : List Operand} {at_ : Array TypeId} {t : TypeId} {pos : String} {af : Array Edge} {g : Option (Nat × Bool)} {f : FuncId} {cap : Array Value} {args : List Value} {v : Value} {V1 : HV}
    (h : FnC P f args V1 [] (fun v' _ _ => v' = v)) (hs : ∀ w, Mem C V σ w → Sub V1 (hv w)) (hx : ev env x = .func (.func f) #[] cap) (ha : l.map (ev env) ++ cap.toList = args) :
    QV P C ⟨dst, .call { callee := .value x, args := l.toArray, argTypes := at_ }, t, pos, af, g⟩ env V σ v := fun w hm => by
  have q : QV P ⟨w, V1, dom []⟩ ⟨dst, .call { callee := .value x, args := l.toArray, argTypes := at_ }, t, pos, af, g⟩ env V1 [] v := qv_call h hx ha
  have m0 : Mem ⟨w, V1, dom []⟩ V1 [] w := ⟨rfl, rfl, rfl, Nat.le_refl _, fun _ _ _ => rfl, .refl _, hs w hm, fun _ _ _ => rfl, [], trivial, List.Pairwise.nil, fun _ hh => by cases hh⟩
  exact quietUpon_mono (fun _ ⟨_, e⟩ => ⟨hm.ext e, e⟩) (q w m0)
/-- The same where one owned block is read. -/
theorem qv_call_own {dst : Option Nat} {x : Operand} {l : List Operand} {at_ : Array TypeId} {t : TypeId} {pos : String} {af : Array Edge} {g : Option (Nat × Bool)} {f : FuncId} {cap : Array Value} {args : List Value} {v : Value} {k b : Nat} {o : Obj}
    (hk : σ[k]? = some (Blk b o)) (h : ∀ V1, Sub V V1 → V1 b = some o → FnC P f args V1 [] (fun v' _ _ => v' = v)) (hx : ev env x = .func (.func f) #[] cap) (ha : l.map (ev env) ++ cap.toList = args) :
    QV P C ⟨dst, .call { callee := .value x, args := l.toArray, argTypes := at_ }, t, pos, af, g⟩ env V σ v := fun w hm => by
  obtain ⟨h2, h3⟩ := hm.blk hk
  have h1 := hm.view
  have s1 : Sub V (plus V (one b o)) := sub_plus_left _ _
  have hb : plus V (one b o) b = some o := by unfold plus; rw [h3]; simp [one]
  refine qv_call_in (h _ s1 hb) (fun w' hm' => ?_) hx ha w hm
  have h2 := (hm'.blk hk).1
  intro c o' hc
  unfold plus at hc
  cases hV : V c with
  | some o2 => rw [hV] at hc; exact hm'.view c o' (by rw [hV]; exact hc)
  | none =>
    rw [hV] at hc
    simp only [one] at hc
    split at hc
    · rename_i e; subst e; cases hc; exact h2
    · cases hc
end
end Go.Vc
