/- Slice literals, append onto a slice of one's own, parts of a slice. No program in sight. -/
import Derived.Test.YtgehdgeiikjohaaVcE
namespace Go.Vc
open Go.RowKit

theorem foldl_set_list (off : Nat) : ∀ (vs : List Value) (j : Nat) (cells : Array Value), off + j + vs.length ≤ cells.size →
    ((vs.zipIdx j).foldl (fun cs (p : Value × Nat) => cs.setIfInBounds (off + p.2) p.1) cells).toList = cells.toList.take (off + j) ++ vs ++ cells.toList.drop (off + j + vs.length)
  | [], j, cells, _ => by simp
  | v :: vs, j, cells, h => by
    simp only [List.length_cons] at h
    simp only [List.zipIdx_cons, List.foldl_cons]
    rw [foldl_set_list off vs (j + 1) _ (by simp; omega)]
    simp only [Array.toList_setIfInBounds, List.length_cons]
    generalize hc : cells.toList = cl
    have hlen : off + j + (vs.length + 1) ≤ cl.length := by rw [← hc]; simpa using h
    have e1 : (cl.set (off + j) v).take (off + (j + 1)) = cl.take (off + j) ++ [v] := by
      have hl : off + j < cl.length := by omega
      rw [show off + (j + 1) = (off + j) + 1 by omega, List.take_succ_eq_append_getElem (by simpa using hl)]
      simp [List.take_set_of_le (Nat.le_refl _)]
    have e2 : (cl.set (off + j) v).drop (off + (j + 1) + vs.length) = cl.drop (off + j + (vs.length + 1)) := by
      rw [show off + j + (vs.length + 1) = off + (j + 1) + vs.length by omega, List.drop_set_of_lt (by omega)]
    rw [e1, e2]; simp

theorem fill_all (s : Nat) : ∀ (l : List (Nat × Value)) (i : Nat) (cells : Array Value), l.map Prod.fst = List.range' i l.length → (∀ p ∈ l, p.2.cells.size = s) → (i + l.length) * s = cells.size →
    Instr.fill (fun i => some (i * s, s)) cells l = some (cells.toList.take (i * s) ++ l.flatMap (fun p => p.2.cells.toList)).toArray
  | [], i, cells, _, _, h => by
    simp only [List.length_nil, Nat.add_zero] at h
    simp [Instr.fill, h, List.take_of_length_le]
  | (j, v) :: l, i, cells, h1, h2, h3 => by
    simp only [List.map_cons, List.length_cons, List.range'_succ, List.cons.injEq] at h1
    obtain ⟨rfl, h1⟩ := h1
    have hv : v.cells.size = s := h2 _ (List.mem_cons_self ..)
    simp only [List.length_cons] at h3
    have h3' : j * s + s + l.length * s = cells.size := by rw [← h3, ← Nat.add_assoc, Nat.add_mul, Nat.add_mul]; omega
    have hfit : ¬ (j * s + v.cells.size > cells.size) := by rw [hv]; omega
    have hfold : (v.cells.zipIdx.foldl (fun cs (p : Value × Nat) => cs.setIfInBounds (j * s + p.2) p.1) cells).toList = cells.toList.take (j * s) ++ v.cells.toList ++ cells.toList.drop (j * s + s) := by
      rw [← Array.foldl_toList, Array.toList_zipIdx, foldl_set_list _ _ _ _ (by simp [hv]; omega)]
      simp [hv]
    have hsz : (v.cells.zipIdx.foldl (fun cs (p : Value × Nat) => cs.setIfInBounds (j * s + p.2) p.1) cells).size = cells.size := by
      rw [← Array.length_toList, hfold]; simp [hv]; omega
    simp only [Instr.fill, hv]
    rw [if_neg (by simp; omega)]
    have ih := fill_all s l (j + 1) (v.cells.zipIdx.foldl (fun cs (p : Value × Nat) => cs.setIfInBounds (j * s + p.2) p.1) cells) h1 (fun p hp => h2 p (List.mem_cons_of_mem _ hp)) (by rw [hsz, ← h3]; congr 1; omega)
    have e := ih
    simp only [hfold] at e
    refine Eq.trans e ?_
    congr 2
    rw [List.take_append_of_le_length (by simp [hv, Nat.add_mul]; omega), List.take_of_length_le (by simp [hv, Nat.add_mul]; omega)]
    simp

section
variable {P : Program} {C : Cx} {N : Nat} {K : K3} {Q : Ex → K3} {env : Env} {V : HV} {σ : Res} {ops : Array Oper} {rest : List Oper} {w : World}
variable {d k : Nat} {x y z : Operand} {t T T' E : TypeId} {pos : String} {af : Array Edge} {g : Option (Nat × Bool)} {v : Value} {op : Op}

/-- A slice literal, all of whose elements are given, in order. -/
theorem ops_lit {l : List (Nat × Operand)} {n s yy : Nat} {z0 : Value} {cs : List Value} (hT : P.underlying T = some (.slice E)) (hi : TI P E z0 s yy) (_hs : 0 < s) (hn : l.map Prod.fst = List.range' 0 n)
    (hc : l.flatMap (fun p => (ev env p.2).cells.toList) = cs) (hcs : (l.all fun p => (ev env p.2).cells.size == s) = true) (hle : n * s ≤ 16777216) (_hzs : z0.cells.size = s)
    (h : ∀ b, Ops P C N ops K rest (upd N env d (.slice (some ⟨b, 0, none⟩) n n)) V (σ ++ [Arr E b cs])) :
    Ops P C N ops K (⟨some d, .buildSlice T n l.toArray, t, pos, af, none⟩ :: rest) env V σ := fun a w hf hm => by
  refine wpList_plain rfl fun K' hK' => ?_
  unfold Oper.wp
  obtain ⟨i, i1, i2, i3, i4⟩ := hi.out
  have hln : l.length = n := by have := congrArg List.length hn; simpa using this
  have hpl : l.toArray.map (fun p => (p.1, ev env p.2)) = (l.map (fun p => (p.1, ev env p.2))).toArray := by simp
  have hfill : ∀ cells : Array Value, cells.size = n * s → Instr.fill (fun i => some (i * s, s)) cells (l.map (fun p => (p.1, ev env p.2))) = some cs.toArray := fun cells hc' => by
    rw [fill_all s _ 0 cells]
    · simp only [Nat.zero_mul, List.take_zero, List.nil_append, List.flatMap_map]
      rw [← hc]
    · simp only [List.map_map, List.length_map, hln]
      exact hn
    · intro p hp
      obtain ⟨q, hq, rfl⟩ := List.mem_map.1 hp
      have := List.all_eq_true.1 hcs q hq
      simpa using this
    · simp [hln, hc']
  have e : (execOp (ev env) ⟨some d, .buildSlice T n l.toArray, t, pos, af, none⟩).run P w = .ok (.value (.slice (some ⟨w.heap.size, 0, none⟩) n n)) (w.alloc (.cells cs.toArray E)) := by
    have hle' : ¬ (16777216 < n * s) := by omega
    have hmm := hfill ((Array.range (n * s)).map (z0.cells[· % z0.cells.size]!)) (by simp)
    by_cases h0 : n * s = 0
    · have hmm := hfill ((Array.range (n * s)).map ((#[] : Array Value)[· % (#[] : Array Value).size]!)) (by simp)
      simp only [execOp, Instr.buildSlice, hpl]
      simp [run_underlying hT, sizeOf, typeInfo, i1, i3, h0] at hmm ⊢
      simp [hmm, run_newRow]
    · simp only [execOp, Instr.buildSlice, hpl]
      simp [run_underlying hT, sizeOf, typeInfo, i1, i3, h0, hle', zeroValue, i2, hmm, run_newRow]
  rw [hf.eval, e]
  exact hK' _ _ (h w.heap.size _ _ (hf.put (some d) _) (hm.alloc _ _ rfl))

/-- A slice of one's own that may grow: v is nil, or starts an owned block; its n elements, of s cells each, are xs. -/
def Gr (E : TypeId) (s : Nat) (v : Value) (n : Nat) (xs : List Value) : Asrt := fun h =>
  xs.length = n * s ∧ ((v = .slice none 0 0 ∧ n = 0 ∧ h = fun _ => none) ∨
    ∃ g cap cur, v = .slice (some ⟨g, 0, none⟩) n cap ∧ h = one g (.cells cur E (0, 0)) ∧ n ≤ cap ∧ cap ≤ maxLen ∧ cur.size = cap * s ∧ cur.toList.take (n * s) = xs)

theorem Mem.add_none (m : Mem C V σ w) (E : TypeId) (s : Nat) : Mem C V (σ ++ [Gr E s (.slice none 0 0) 0 []]) w := by
  obtain ⟨hs, h1, h2, h3⟩ := m.own
  refine ⟨m.os, m.tape, m.output, m.size, m.frame, m.sub, m.view, m.vold, hs ++ [fun _ => none], h1.append ⟨⟨by simp, .inl ⟨rfl, rfl, rfl⟩⟩, trivial⟩, ?_, ?_⟩
  · exact List.pairwise_append.2 ⟨h2, List.pairwise_singleton _ _, fun _ _ b hb _ => by rw [List.mem_singleton] at hb; subst hb; exact .inr rfl⟩
  · intro h hh
    rcases List.mem_append.1 hh with hh | hh
    · exact h3 h hh
    · rw [List.mem_singleton] at hh; subst hh
      exact ⟨(fun _ _ q => by cases q), (fun _ => .inl rfl), (fun _ _ q => absurd rfl q)⟩

/-- A nil slice that will grow: its piece. -/
theorem vc_nil {c : Code} (E : TypeId) (s : Nat) (h : VC P C N c K Q env V (σ ++ [Gr E s (.slice none 0 0) 0 []])) : VC P C N c K Q env V σ := fun a w hf hm => h a w hf (hm.add_none E s)
theorem ops_gr0 (E : TypeId) (s : Nat) {l : List Oper} (h : Ops P C N ops K l env V (σ ++ [Gr E s (.slice none 0 0) 0 []])) : Ops P C N ops K l env V σ := fun a w hf hm => h a w hf (hm.add_none E s)

theorem Mem.to_gr {b n cap : Nat} {cs : Array Value} {E : TypeId} {s : Nat} {xs : List Value} (m : Mem C V σ w) (hk : σ[k]? = some (Blk b (.cells cs E (0, 0)))) (hx : xs.length = n * s) (hn : n ≤ cap) (hm : cap ≤ maxLen) (hc : cs.size = cap * s)
    (ht : cs.toList.take (n * s) = xs) : Mem C V (σ.set k (Gr E s (.slice (some ⟨b, 0, none⟩) n cap) n xs)) w :=
  m.upd hk fun h hA hs hd => by
    have hA : h = one b (.cells cs E (0, 0)) := hA
    exact Mem.single rfl rfl rfl (Nat.le_refl _) (fun _ _ _ => rfl) m.view hd hs ⟨hx, .inr ⟨b, cap, cs, rfl, hA, hn, hm, hc, ht⟩⟩ (fun _ _ q => q)

theorem ops_to_gr {l : List Oper} {b n cap : Nat} {cs : Array Value} (s : Nat) (xs : List Value) (hk : σ[k]? = some (Blk b (.cells cs E (0, 0)))) (hx : xs.length = n * s) (hn : n ≤ cap) (hm' : cap ≤ maxLen) (hc : cs.size = cap * s)
    (ht : cs.toList.take (n * s) = xs) (h : Ops P C N ops K l env V (σ.set k (Gr E s (.slice (some ⟨b, 0, none⟩) n cap) n xs))) : Ops P C N ops K l env V σ := fun a w hf hm => h a w hf (hm.to_gr hk hx hn hm' hc ht)

theorem Gr.shape {E : TypeId} {s : Nat} {v : Value} {n : Nat} {xs : List Value} {h : HV} (hg : Gr E s v n xs h) : ∃ a c, v = .slice a n c ∧ n ≤ c ∧ c ≤ maxLen := by
  rcases hg.2 with ⟨rfl, rfl, _⟩ | ⟨g, cap, cur, rfl, _, h1, h2, _⟩
  · exact ⟨none, 0, rfl, Nat.le_refl _, Nat.zero_le _⟩
  · exact ⟨_, cap, rfl, h1, h2⟩

theorem Gr.sl {E : TypeId} {v : Value} {n : Nat} {xs : List Value} {h : HV} (hg : Gr E 1 v n xs h) : Sl h v xs := by
  obtain ⟨hx, hg⟩ := hg
  rw [Nat.mul_one] at hx
  rcases hg with ⟨rfl, rfl, _⟩ | ⟨g, cap, cur, rfl, rfl, h1, h2, h3, h4⟩
  · have : xs = [] := List.eq_nil_of_length_eq_zero hx
    subst this
    exact ⟨none, 0, rfl, Nat.le_refl _, Nat.zero_le _, fun h => absurd rfl h⟩
  · refine ⟨some ⟨g, 0, none⟩, cap, by rw [hx], by omega, by simpa [maxLen] using h2, fun _ => ⟨g, 0, cur, E, (0, 0), rfl, by simp [one], fun i hi => ?_⟩⟩
    rw [← h4, Nat.mul_one, List.getElem?_take, if_pos (by omega)]
    simp

theorem inG {n : Nat} {xs : List Value} (hk : σ[k]? = some (Gr E 1 v n xs)) : In C V σ (fun H => Sl H v xs) := fun w m => by
  obtain ⟨hs, h1, h2, h3⟩ := m.own
  obtain ⟨h, e, hg⟩ := h1.get hk
  exact hg.sl.mono (h3 h (List.mem_of_getElem? e)).1

/-- The append of a slice's elements to a slice of one's own. -/
theorem ops_append {n s yy m c : Nat} {z0 : Value} {xs news : List Value} {ad : Addr} (hT : P.underlying T = some (.slice E)) (hi : TI P E z0 s yy) (hzs : z0.cells.size = s) (hs : 0 < s) (hx : ev env x = v) (hk : σ[k]? = some (Gr E s v n xs))
    (hy : ev env y = .slice (some ad) m c) (hl : news.length = m * s) (hnews : ∀ w, Mem C V σ w → ∀ j u, news[j]? = some u → w.cell? (ad.add j) = some u) (h1 : ∀ u ∈ news, u.oneCell' = true)
    (hb : (n + m) * yy ≤ 140737488355328) (h63 : n + m ≤ maxLen)
    (h : ∀ v', (v' = .slice none 0 0 ↔ v = .slice none 0 0 ∧ m = 0) → Ops P C N ops K rest (upd N env d v') V (σ.set k (Gr E s v' (n + m) (xs ++ news)))) :
    Ops P C N ops K (⟨some d, .call { callee := .builtin .append, args := #[x, y], argTypes := #[T, T] }, t, pos, af, none⟩ :: rest) env V σ := fun a w hf hm => by
  refine wpList_plain rfl fun K' hK' => ?_
  unfold Oper.wp
  obtain ⟨i, i1, i2, i3, i4⟩ := hi.out
  subst i3; subst i4
  have hnews' := hnews w hm
  have run : ∀ (r : Result Value), (Builtin.append_ #[T, T] t #[v, .slice (some ad) m c]).run P w = r →
      (execOp (ev env) ⟨some d, .call { callee := .builtin .append, args := #[x, y], argTypes := #[T, T] }, t, pos, af, none⟩).run P w = r.andThen (fun v w => .ok (.value v) w) := fun r hr => by
    simp only [execOp, resolve, invoke, builtin, Sem.run_bind, Sem.run_pure, Result.andThen_ok, List.map_toArray, List.map_cons, List.map_nil, hx, hy, hr]
  have fin : ∀ v' w', (Builtin.append_ #[T, T] t #[v, .slice (some ad) m c]).run P w = .ok v' w' → Mem C V (σ.set k (Gr E i.size v' (n + m) (xs ++ news))) w' → (v' = .slice none 0 0 ↔ v = .slice none 0 0 ∧ m = 0) →
      Oper.upon P ⟨some d, .call { callee := .builtin .append, args := #[x, y], argTypes := #[T, T] }, t, pos, af, none⟩ a K' (lift C N K fun _ _ _ _ => False) ((execOp (ev env) ⟨some d, .call { callee := .builtin .append, args := #[x, y], argTypes := #[T, T] }, t, pos, af, none⟩).run P w) := fun v' w' hr hm' hiff => by
    rw [run _ hr]
    exact hK' _ _ (h v' hiff _ _ (hf.put (some d) _) hm')
  rw [hf.eval]
  have hsmall : n + m ≤ 9223372036854775807 := by simp only [maxLen] at h63; omega
  -- what the piece is
  obtain ⟨hs0, s1, s2, s3⟩ := hm.own
  obtain ⟨hh, e, hg⟩ := s1.get hk
  have hsub := (s3 hh (List.mem_of_getElem? e)).1
  have hlen : (xs ++ news).length = (n + m) * i.size := by rw [List.length_append, hg.1, hl, Nat.add_mul]
  have grown : ∀ (old : Nat), Mem C V (σ.set k (Gr E i.size (.slice (some ⟨w.heap.size, 0, none⟩) (n + m) (grownCap w (n + m) old E)) (n + m) (xs ++ news)))
      (w.drew.alloc (.cells (xs.toArray ++ news.toArray ++ Builtin.zeroCells z0.cells (grownCap w (n + m) old E - (n + m))) E)) := fun old => by
    have hge := grownCap_ge w (n + m) old E
    have hcm : grownCap w (n + m) old E ≤ maxLen := grownCap_le_maxLen w (n + m) old E h63
    refine hm.upd hk fun q hq hqs hqd => ?_
    refine Mem.single (h' := one w.heap.size (.cells (xs.toArray ++ news.toArray ++ Builtin.zeroCells z0.cells (grownCap w (n + m) old E - (n + m))) E (0, 0))) rfl rfl rfl (by simp) (fun b hb _ => heap_alloc_old w.drew _ b hb) hm.view hqd ?_
      ⟨hlen, .inr ⟨w.heap.size, _, _, rfl, rfl, hge, hcm, ?_, ?_⟩⟩ ?_
    · intro b o hb
      unfold one at hb
      split at hb
      · rename_i hbe; subst hbe; cases hb
        exact heap_alloc_new w.drew _
      · cases hb
    · simp only [Array.size_append, List.size_toArray, size_zeroCells, hzs, hg.1, hl, ← Nat.add_mul]
      congr 1
      omega
    · simp only [Array.toList_append, List.append_assoc]
      rw [← List.append_assoc, ← hlen]
      exact List.take_left
    · intro b hb hn
      unfold one at hn
      split at hn
      · omega
      · exact absurd rfl hn
  rcases hg.2 with ⟨rfl, rfl, he⟩ | ⟨gb, cap, cur, rfl, he, hnc, hcm, hcs, htake⟩
  · have hx0 : xs = [] := List.eq_nil_of_length_eq_zero (by simpa using hg.1)
    subst hx0
    by_cases hm0 : m = 0
    · subst hm0
      have hn0 : news = [] := List.eq_nil_of_length_eq_zero (by simpa using hl)
      subst hn0
      refine fin (.slice none 0 0) w ?_ ?_ (by simp)
      · simp [Builtin.append_, run_underlying hT, sizeOf, typeInfo, i1, Builtin.lenOf, Builtin.firstCells, loadCells, loadCellsFrom]
      · have hset : σ.set k (Gr E i.size (.slice none 0 0) (0 + 0) ([] ++ [])) = σ := by
          obtain ⟨hk1, hk2⟩ := List.getElem?_eq_some_iff.1 hk
          have : Gr E i.size (.slice none 0 0) (0 + 0) ([] ++ []) = σ[k] := by rw [hk2]; rfl
          rw [this]; exact List.set_getElem_self hk1
        rw [hset]; exact hm
    · have hr := run_append_nil (P := P) w T t E i z0 hT i1 i2 ad m c news hl hnews' (by omega) (by omega) (by have hb := hb; simp only [Nat.zero_add] at hb; omega)
      have hgr := grown 0
      simp only [Nat.zero_add, List.nil_append, Array.empty_append] at hgr hr
      refine fin _ _ hr ?_ (by simp [hm0])
      simpa using hgr
  · have hcell : w.heap[gb]? = some (.cells cur E (0, 0)) := hsub gb _ (by rw [he]; simp [one])
    by_cases hroom : n + m ≤ cap
    · have hfit : n * i.size + news.length ≤ cur.size := by rw [hl, hcs, ← Nat.add_mul]; exact Nat.mul_le_mul_right _ hroom
      have hr := run_append_room (P := P) w T t E i hT i1 gb n cap cur hcell ad m c news hl hnews' h1 hroom hfit
      refine fin _ _ hr ?_ (by simp)
      have hlt : gb < w.heap.size := hv_lt (w := w) hcell
      refine hm.upd hk fun q hq hqs hqd => ?_
      have hqe : q gb ≠ none := by
        rcases hq.2 with ⟨q1, _⟩ | ⟨g', _, _, q1, q2, _⟩
        · cases q1
        · cases q1; rw [q2]; simp [one]
      refine Mem.single (h' := one gb (.cells (cur.toList.take (n * i.size) ++ news ++ cur.toList.drop (n * i.size + news.length)).toArray E (0, 0))) rfl rfl rfl (by simp [World.setRow]) (fun b hb hn => setRow_other w gb b _ (fun e => hqe (e ▸ hn))) hm.view hqd ?_
        ⟨hlen, .inr ⟨gb, cap, _, rfl, rfl, hroom, hcm, ?_, ?_⟩⟩ ?_
      · intro b o hb
        unfold one at hb
        split at hb
        · rename_i hbe; subst hbe; cases hb
          exact setRow_heap w _ cur _ E _ hcell
        · cases hb
      · simp only [List.size_toArray, List.length_append, List.length_take, List.length_drop, Array.length_toList]
        omega
      · rw [htake, ← hlen]
        exact List.take_left
      · intro b hb hn
        unfold one at hn
        split at hn
        · rename_i hbe; subst hbe; exact hqe
        · exact absurd rfl hn
    · have holds : ∀ j u, xs[j]? = some u → w.cell? ((⟨gb, 0, none⟩ : Addr).add j) = some u := fun j u hu => by
        rw [add_cell (w := w) (b := gb) (off := 0) (i := j) hcell]
        rw [← htake, List.getElem?_take] at hu
        split at hu
        · simpa using hu
        · cases hu
      have hr := run_append_grow (P := P) w T t E i z0 hT i1 i2 ⟨gb, 0, none⟩ n cap xs hg.1 holds ad m c news hl hnews' (by omega) (by omega) (growslice_fits (by omega) hb)
      exact fin _ _ hr (grown cap) (by simp)

/-- The new elements lie in an owned row. -/
theorem news_own {j b : Nat} {T' : TypeId} {news : List Value} (hj : σ[j]? = some (Arr T' b news)) : ∀ w, Mem C V σ w → ∀ i u, news[i]? = some u → w.cell? ((⟨b, 0, none⟩ : Addr).add i) = some u := fun w hm i u hu => by
  rw [add_cell (w := w) (hm.blk hj).1]
  simpa using hu

/-- What one owns is given away for good. -/
theorem ops_freezeG {l : List Oper} {n : Nat} {xs : List Value} {σr : Res} (hp : σ.Perm (Gr E 1 v n xs :: σr)) (h : ∀ V', Sub V V' → Sl V' v xs → Ops P C N ops K l env V' σr) : Ops P C N ops K l env V σ := fun a w hf hm => by
  obtain ⟨x, hx, hd, m'⟩ := hm.freeze hp
  exact h _ (sub_plus_left _ _) (hx.sl.mono (sub_plus_right hd)) a w hf m'
end
end Go.Vc
