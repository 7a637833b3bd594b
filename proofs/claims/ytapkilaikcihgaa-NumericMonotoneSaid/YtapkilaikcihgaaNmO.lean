/- Strided intervals: the results of operators contain the values, and grow with the operands. No program in sight. -/
import Derived.Test.YtapkilaikcihgaaNmR
namespace Go.Vc
open Go Go.RowKit
section
variable {P : Program} {C : Cx} {N : Nat} {env : Env} {V : HV} {σ : Res}
variable {dst : Option Nat} {m : Int} {x y : Operand} {t T T' : TypeId} {pos : String} {af : Array Edge} {g : Option (Nat × Bool)}
theorem and_mask62 {m : Int} : ((BitVec.ofInt 64 m &&& BitVec.ofInt 64 4611686018427387903).toNat : Int) = m % 4611686018427387904 := by
  have e2 : (BitVec.ofInt 64 4611686018427387903).toNat = 2 ^ 62 - 1 := by decide
  have e1 : ((BitVec.ofInt 64 m).toNat : Int) = m % 18446744073709551616 := by rw [BitVec.toNat_ofInt]; simp; omega
  rw [BitVec.toNat_and, e2, Nat.and_two_pow_sub_one_eq_mod]
  omega
theorem qv_and62 (hx : ev env x = .int .i64 m) (hy : ev env y = .int .i64 4611686018427387903) : QV P C ⟨dst, .binOp .and T x y T', t, pos, af, g⟩ env V σ (.int .i64 (m % 4611686018427387904)) := qv_run fun w _ => by
  have e : IntKind.i64.wrap ((BitVec.ofInt 64 m &&& BitVec.ofInt 64 4611686018427387903).toNat : Int) = m % 4611686018427387904 := by
    rw [and_mask62]; exact IntWalk.i64_in _ (by omega)
  have e' : (Op.intBits .and .i64 m 4611686018427387903).run P w = .ok (.int .i64 (m % 4611686018427387904)) w := by
    show (pure (Value.int .i64 (IntKind.i64.wrap ((BitVec.ofInt 64 m &&& BitVec.ofInt 64 4611686018427387903).toNat : Int))) : Sem Value).run P w = _
    rw [e]; rfl
  simp [execOp, hx, hy, eqGuard, binOp, e']
end
end Go.Vc
namespace Go.Proofs.Ytapkilaikcihgaa
open Go.Vc
open Classical
theorem mag_le {n : Int} : -mag n ≤ n ∧ n ≤ mag n := by unfold mag; split <;> omega
theorem mag_of {n m : Int} (h : -m ≤ n ∧ n ≤ m) : mag n ≤ m := by unfold mag; split <;> omega
theorem divF_mag {x y : Int} : -mag x ≤ divF x y ∧ divF x y ≤ mag x := by
  have hm := mag_le (n := x)
  have h0 := mag_nn x
  by_cases hy : y = 0
  · rw [divF_0 hy]; omega
  have hb : (x.tdiv y).natAbs ≤ x.natAbs := by rw [Int.natAbs_tdiv]; exact Nat.div_le_self ..
  have hn : (x.natAbs : Int) = mag x := by unfold mag; split <;> omega
  by_cases h1 : x.tmod y = 0 ∨ ((x < 0) ↔ (y < 0))
  · rw [divF_no hy h1]; omega
  · rw [divF_adj hy (fun e => h1 (Or.inl e)) (fun e => h1 (Or.inr e))]
    have ht : x.tmod y ≠ 0 := fun e => h1 (Or.inl e)
    have e := Int.tmod_add_mul_tdiv x y
    -- the quotient is not the whole of x in size unless y is 1 or -1, and then nothing is left
    have hlt : (x.tdiv y).natAbs < x.natAbs := by
      rw [Int.natAbs_tdiv]
      refine Nat.div_lt_self ?_ ?_
      · refine Nat.pos_of_ne_zero fun q => ht ?_
        have : x = 0 := by omega
        rw [this]; simp
      · have : y.natAbs ≠ 1 := fun q => ht (by
          have : y = 1 ∨ y = -1 := by omega
          rcases this with rfl | rfl
          · simp
          · simp)
        omega
    omega
theorem divF_pos {x y : Int} (hx : 0 ≤ x) (hy : 0 ≤ y) : 0 ≤ divF x y := by
  by_cases h : y = 0
  · rw [divF_0 h]; omega
  · rw [divF_n h, Int.fdiv_eq_ediv_of_nonneg _ hy]; exact Int.ediv_nonneg hx hy
theorem modF_bd {x y : Int} : (0 < y → 0 ≤ modF x y ∧ modF x y < y) ∧ (y < 0 → y < modF x y ∧ modF x y ≤ 0) ∧ (y = 0 → modF x y = 0) := by
  refine ⟨fun h => ?_, fun h => ?_, modF_0⟩
  · have e : modF x y = x.fmod y := by rw [modF_n (by omega), divF_n (by omega)]; have := Int.fmod_add_mul_fdiv x y; omega
    rw [e, Int.fmod_eq_emod_of_nonneg _ (Int.le_of_lt h)]
    exact ⟨Int.emod_nonneg x (by omega), Int.emod_lt_of_pos x h⟩
  · have e : modF x y = x.fmod y := by rw [modF_n (by omega), divF_n (by omega)]; have := Int.fmod_add_mul_fdiv x y; omega
    rw [e, Int.fmod_eq_emod]
    have e1 := Int.emod_nonneg x (show y ≠ 0 by omega)
    have e2 := Int.emod_lt_of_neg x h
    by_cases hd : y ∣ x
    · rw [if_pos (Or.inr hd), Int.emod_eq_zero_of_dvd hd]; omega
    · have : x % y ≠ 0 := fun q => hd (Int.dvd_of_emod_eq_zero q)
      rw [if_neg (by rintro (q | q); omega; exact hd q)]; omega
theorem span1 {lo hi n : Int} (h : lo ≤ n ∧ n ≤ hi) : mem (spanF lo hi 1) n := (span_mem (by omega) (by omega)).2 ⟨h.1, h.2, Int.one_dvd _⟩
theorem span1_bd {lo hi n : Int} (h : mem (spanF lo hi 1) n) : lo ≤ n ∧ n ≤ hi := by
  by_cases q : hi < lo
  · rw [spanF_1 q] at h; exact absurd h mem_nE
  · have := (span_mem q (by omega)).1 h; exact ⟨this.1, this.2.1⟩
theorem in_mag {a : Nm} {x : Int} (h : mem a x) : mag x ≤ mx (mag a.l) (mag a.h) := by
  have h1 := h.1; have h2 := h.2.1
  have m := mx_or (mag a.l) (mag a.h)
  have p := mag_le (n := a.l); have q := mag_le (n := a.h)
  exact mag_of (by omega)
theorem wd_vld {op : Int} {a b : Nm} (ha : vld a) (hb : vld b) : vld (wdF op a b) := by
  have va := vld_bd ha; have vb := vld_bd hb
  have m1 := mag_bd va.1; have m2 := mag_bd va.2.1
  have m := mx_or (mag a.l) (mag a.h)
  have s := mn_or (b.l + 1) 0; have t := mx_or (b.h - 1) 0
  unfold fits at va vb
  by_cases h : op = 11
  · by_cases h2 : 0 ≤ a.l ∧ 0 ≤ b.l
    · rw [wd_1 h h2]; exact span_vld (by unfold fits; omega) (by unfold fits; omega) (by omega)
    · rw [wd_2 h h2]; exact span_vld (by unfold fits; omega) (by unfold fits; omega) (by omega)
  · by_cases h2 : op = 12
    · rw [wd_3 h2]; exact span_vld (by unfold fits; omega) (by unfold fits; omega) (by omega)
    · by_cases h3 : op = 21
      · rw [wd_4 h3]; exact (up_ok (join_least ha hb).ok _).1
      · rw [wd_5 (by omega)]; exact (ab_ok (join_least ha hb).ok _).1
theorem wd_all {op x y : Int} {a b : Nm} (ha : vld a) (hb : vld b) (ho : op = 11 ∨ op = 12 ∨ op = 21 ∨ op = 22) (hx : mem a x) (hy : mem b y) : mem (wdF op a b) (valF op x y) := by
  have x1 := hx.1; have x2 := hx.2.1; have y1 := hy.1; have y2 := hy.2.1
  rcases ho with h | h | h | h
  · have hm := in_mag hx
    have hd := divF_mag (x := x) (y := y)
    rw [val11 h]
    by_cases h2 : 0 ≤ a.l ∧ 0 ≤ b.l
    · have := divF_pos (x := x) (y := y) (by omega) (by omega)
      rw [wd_1 h h2]; exact span1 (by omega)
    · rw [wd_2 h h2]; exact span1 (by omega)
  · rw [val12 h, wd_3 h]
    obtain ⟨p, q, r⟩ := modF_bd (x := x) (y := y)
    have s := mn_or (b.l + 1) 0; have t := mx_or (b.h - 1) 0
    refine span1 ?_
    rcases Int.lt_trichotomy y 0 with z | z | z
    · have := q z; omega
    · have := r z; omega
    · have := p z; omega
  · rw [val21 h, wd_4 h]
    have jl := join_least ha hb
    have s := mn_or x y
    have s2 := mn_or a.h b.h
    refine ((up_ok jl.ok _).2 _).2 ⟨?_, by omega⟩
    rcases s.2.2 with e | e
    · rw [e]; exact jl.all _ (Or.inl hx)
    · rw [e]; exact jl.all _ (Or.inr hy)
  · rw [val22 (by omega), wd_5 (by omega)]
    have jl := join_least ha hb
    have s := mx_or x y
    have s2 := mx_or a.l b.l
    refine ((ab_ok jl.ok _).2 _).2 ⟨?_, by omega⟩
    rcases s.2.2 with e | e
    · rw [e]; exact jl.all _ (Or.inl hx)
    · rw [e]; exact jl.all _ (Or.inr hy)
theorem bi_ok0 {op : Int} {a b : Nm} (h : biE op a b = 0) : biOk op a b := Classical.byContradiction fun q => by rw [biE_1 q] at h; omega
theorem bi_ex {op : Int} {a b : Nm} (h : biE op a b = 0) (h2 : ¬ (a = nE ∨ b = nE)) : exOk op a b := by
  rw [biE_x (bi_ok0 h) h2] at h
  exact Classical.byContradiction fun q => by rw [exE_0 q] at h; omega
theorem ls_sound {op : Int} {a b : Nm} (ha : vld a) (hb : vld b) (ho : op = 11 ∨ op = 12 ∨ op = 21 ∨ op = 22) : vld (lsF op a b) ∧ ∀ x y, mem a x → mem b y → mem (lsF op a b) (valF op x y) := by
  by_cases hs : sml a b
  · have l := ex_least ha hb (op := op) fun x y _ _ => valOk_o (by omega)
    rw [lsF_1 hs]; exact ⟨l.ok, fun x y hx hy => l.all _ ⟨x, y, hx, hy, rfl⟩⟩
  · rw [lsF_0 hs]; exact ⟨wd_vld ha hb, fun x y hx hy => wd_all ha hb ho hx hy⟩
theorem bi_vld {op : Int} {a b : Nm} (h : biE op a b = 0) : vld (biN op a b) := by
  have hb := bi_ok0 h
  by_cases h2 : a = nE ∨ b = nE
  · rw [biN_e hb h2]; exact vld_nE
  · by_cases ho : op = 11 ∨ op = 12 ∨ op = 21 ∨ op = 22
    · rw [biN_l hb h2 ho]; exact (ls_sound hb.1 hb.2.1 ho).1
    · rw [biN_x hb h2 ho, exN_1 (bi_ex h h2)]; exact (ex_least hb.1 hb.2.1 (bi_ex h h2)).ok
theorem bi_sound {op x y : Int} {a b : Nm} (h : biE op a b = 0) (hx : mem a x) (hy : mem b y) : valOk op x y ∧ (vld (biN op a b) ∧ mem (biN op a b) (vN op x y)) := by
  have hb := bi_ok0 h
  have h2 : ¬ (a = nE ∨ b = nE) := by rintro (e | e); exact mem_ne hx e; exact mem_ne hy e
  have hk := bi_ex h h2 x y hx hy
  refine ⟨hk, bi_vld h, ?_⟩
  rw [vN_ok hk]
  by_cases ho : op = 11 ∨ op = 12 ∨ op = 21 ∨ op = 22
  · rw [biN_l hb h2 ho]; exact (ls_sound hb.1 hb.2.1 ho).2 x y hx hy
  · rw [biN_x hb h2 ho, exN_1 (bi_ex h h2)]; exact (ex_least hb.1 hb.2.1 (bi_ex h h2)).all _ ⟨x, y, hx, hy, rfl⟩
/- growing with the operands -/
theorem size_sub {a c : Nm} (ha : vld a) (hc : vld c) (he : a ≠ nE) (hs : sub a c) : sizeF a ≤ sizeF c := by
  obtain ⟨m1, m2, d⟩ := (sub_iff ha he).1 hs
  have hc0 := mem_ne m1
  by_cases h : a.s = 0
  · rw [sizeF_1 he h]; exact size_pos hc hc0
  · have a0 := (vld_bd ha).2.2
    have l1 := step_le ha he
    have c0 := (vld_bd hc).2.2
    have hcs : c.s ≠ 0 := fun q => h (Int.zero_dvd.1 (q ▸ d))
    have hle := Int.le_of_dvd (by omega) d
    rw [sizeF_2 he h, sizeF_2 hc0 hcs]
    have h1 : (a.h - a.l) / a.s ≤ (a.h - a.l) / c.s := by
      rw [Int.le_ediv_iff_mul_le (by omega)]
      have q0 := Int.ediv_nonneg (show 0 ≤ a.h - a.l by omega) a0
      have q1 := Int.mul_le_mul_of_nonneg_left hle q0
      have q2 := Int.ediv_mul_le (a.h - a.l) h
      omega
    have h2 : (a.h - a.l) / c.s ≤ (c.h - c.l) / c.s := Int.ediv_le_ediv (by omega) (by have := m1.1; have := m2.2.1; omega)
    omega
theorem sml_sub {a c b : Nm} (ha : vld a) (hc : vld c) (hb : vld b) (he : a ≠ nE) (hs : sub a c) (h : sml c b) : sml a b := by
  unfold sml at *
  exact Int.le_trans (Int.mul_le_mul_of_nonneg_right (size_sub ha hc he hs) (size_bd hb).1) h
theorem joinL_sub {a c b : Nm} (ha : vld a) (hc : vld c) (hb : vld b) (hs : sub a c) : sub (joinF a b) (joinF c b) :=
  (join_least ha hb).min _ (join_least hc hb).ok fun n h => (join_least hc hb).all n (h.elim (fun q => Or.inl (hs n q)) Or.inr)
theorem wd_sub {op : Int} {a c b : Nm} (ha : vld a) (hc : vld c) (hb : vld b) (he : a ≠ nE) (hs : sub a c) (ho : op = 11 ∨ op = 12 ∨ op = 21 ∨ op = 22) : sub (wdF op a b) (wdF op c b) := by
  have m1 := hs _ (mem_l ha he)
  have m2 := hs _ (mem_h ha he)
  have i1 := in_mag m1
  have i2 := in_mag m2
  have k := mx_or (mag a.l) (mag a.h)
  have b1 := m1.1; have b2 := m2.2.1; have b3 := m1.2.1; have b4 := m2.1
  intro n hn
  rcases ho with h | h | h | h
  · by_cases h2 : 0 ≤ a.l ∧ 0 ≤ b.l
    · rw [wd_1 h h2] at hn
      have hb' := span1_bd hn
      by_cases h3 : 0 ≤ c.l ∧ 0 ≤ b.l
      · rw [wd_1 h h3]; exact span1 (by omega)
      · rw [wd_2 h h3]; exact span1 (by omega)
    · rw [wd_2 h h2] at hn
      have hb' := span1_bd hn
      rw [wd_2 h (by omega)]; exact span1 (by omega)
  · rw [wd_3 h] at *; exact hn
  · rw [wd_4 h] at *
    have q := ((up_ok (join_least ha hb).ok _).2 _).1 hn
    have s1 := mn_or a.h b.h; have s2 := mn_or c.h b.h
    exact ((up_ok (join_least hc hb).ok _).2 _).2 ⟨joinL_sub ha hc hb hs n q.1, by omega⟩
  · rw [wd_5 (by omega)] at *
    have q := ((ab_ok (join_least ha hb).ok _).2 _).1 hn
    have s1 := mx_or a.l b.l; have s2 := mx_or c.l b.l
    exact ((ab_ok (join_least hc hb).ok _).2 _).2 ⟨joinL_sub ha hc hb hs n q.1, by omega⟩
theorem ls_sub {op : Int} {a c b : Nm} (ha : vld a) (hc : vld c) (hb : vld b) (he : a ≠ nE) (hs : sub a c) (ho : op = 11 ∨ op = 12 ∨ op = 21 ∨ op = 22) : sub (lsF op a b) (lsF op c b) := by
  have l := ex_least ha hb (op := op) fun x y _ _ => valOk_o (by omega)
  have key : sml a b → sub (lsF op a b) (lsF op c b) := fun h => by
    rw [lsF_1 h]
    refine l.min _ (ls_sound hc hb ho).1 ?_
    rintro n ⟨x, y, hx, hy, rfl⟩
    exact (ls_sound hc hb ho).2 x y (hs x hx) hy
  by_cases h : sml a b
  · exact key h
  · by_cases h2 : sml c b
    · exact absurd (sml_sub ha hc hb he hs h2) h
    · rw [lsF_0 h, lsF_0 h2]; exact wd_sub ha hc hb he hs ho
theorem bi_mono {op : Int} {a c b : Nm} (ha : vld a) (hs : sub a c) (h : biE op c b = 0) : biE op a b = 0 ∧ (vld (biN op a b) ∧ vld (biN op c b) ∧ sub (biN op a b) (biN op c b)) := by
  have hc := bi_ok0 h
  have hb : biOk op a b := ⟨ha, hc.2⟩
  by_cases h2 : a = nE ∨ b = nE
  · have e0 := biE_e hb h2
    exact ⟨e0, bi_vld e0, bi_vld h, by rw [biN_e hb h2]; exact fun n m => absurd m mem_nE⟩
  · have he : a ≠ nE := fun q => h2 (Or.inl q)
    have h3 : ¬ (c = nE ∨ b = nE) := by
      rintro (q | q)
      · exact mem_ne (hs _ (mem_l ha he)) q
      · exact h2 (Or.inr q)
    have hk := bi_ex h h3
    have hk2 : exOk op a b := fun x y hx hy => hk x y (hs x hx) hy
    have e0 : biE op a b = 0 := by rw [biE_x hb h2, exE_1 hk2]
    refine ⟨e0, bi_vld e0, bi_vld h, ?_⟩
    by_cases ho : op = 11 ∨ op = 12 ∨ op = 21 ∨ op = 22
    · rw [biN_l hb h2 ho, biN_l hc h3 ho]; exact ls_sub ha hc.1 hc.2.1 he hs ho
    · rw [biN_x hb h2 ho, biN_x hc h3 ho, exN_1 hk, exN_1 hk2]
      refine (ex_least ha hc.2.1 hk2).min _ (ex_least hc.1 hc.2.1 hk).ok ?_
      rintro n ⟨x, y, hx, hy, rfl⟩
      exact (ex_least hc.1 hc.2.1 hk).all _ ⟨x, y, hs x hx, hy, rfl⟩
/- one operand -/
theorem mem_neg {a : Nm} {n : Int} (h : vld a) (he : a ≠ nE) : mem (negF a) n ↔ mem a (-n) := by
  have hd := vld_dvd h he
  show (-a.h ≤ n ∧ n ≤ -a.l ∧ a.s ∣ n - -a.h) ↔ (a.l ≤ -n ∧ -n ≤ a.h ∧ a.s ∣ -n - a.l)
  constructor
  · rintro ⟨p, q, r⟩
    refine ⟨by omega, by omega, ?_⟩
    have := Int.dvd_sub hd r
    rwa [show a.h - a.l - (n - -a.h) = -n - a.l by omega] at this
  · rintro ⟨p, q, r⟩
    refine ⟨by omega, by omega, ?_⟩
    have := Int.dvd_sub hd r
    rwa [show a.h - a.l - (-n - a.l) = n - -a.h by omega] at this
theorem neg_vld {a : Nm} (h : vld a) (he : a ≠ nE) : vld (negF a) := by
  obtain ⟨p, q, r, s, t⟩ := vld_ne h he
  have key : fits (-a.h) ∧ fits (-a.l) ∧ -a.h ≤ -a.l ∧ (-a.h = -a.l → a.s = 0) ∧ (-a.h ≠ -a.l → 1 ≤ a.s ∧ (-a.l - -a.h) % a.s = 0) := by
    refine ⟨by unfold fits at *; omega, by unfold fits at *; omega, by omega, fun e => s (by omega), fun e => ?_⟩
    rw [show -a.l - -a.h = a.h - a.l by omega]; exact t (by omega)
  exact Or.inr key
def unV (op x : Int) : Int := if op = 7 then (if x = 0 then 1 else 0) else -x
theorem un_ok0 {op : Int} {a : Nm} (h : unE op a = 0) : vld a ∧ (op = 6 ∨ op = 7) := Classical.byContradiction fun q => by rw [unE_1 q] at h; omega
theorem un_least {op : Int} {a : Nm} (h : unE op a = 0) : Least (fun n => ∃ x, mem a x ∧ unV op x = n) (unN op a) := by
  have hu := un_ok0 h
  by_cases he : a = nE
  · rw [unN_e hu he]; exact least_nE fun n ⟨x, hx, _⟩ => by rw [he] at hx; exact mem_nE hx
  · by_cases h7 : op = 7
    · rw [unN_7 hu he h7]
      refine fg_least.congr fun n => ?_
      constructor
      · rintro (⟨rfl, q⟩ | ⟨rfl, q⟩)
        · obtain ⟨x, hx, h0⟩ := (oth_iff hu.1 he).1 q
          exact ⟨x, hx, by unfold unV; rw [if_pos h7, if_neg h0]⟩
        · exact ⟨0, q, by unfold unV; rw [if_pos h7, if_pos rfl]⟩
      · rintro ⟨x, hx, e⟩
        unfold unV at e; rw [if_pos h7] at e
        by_cases h0 : x = 0
        · rw [if_pos h0] at e; exact Or.inr ⟨e.symm, h0 ▸ hx⟩
        · rw [if_neg h0] at e; exact Or.inl ⟨e.symm, (oth_iff hu.1 he).2 ⟨x, hx, h0⟩⟩
    · rw [unN_6 hu he h7]
      have hv := neg_vld hu.1 he
      refine (least_self hv).congr fun n => ?_
      rw [mem_neg hu.1 he]
      constructor
      · intro m; exact ⟨-n, m, by unfold unV; rw [if_neg h7]; omega⟩
      · rintro ⟨x, hx, e⟩
        unfold unV at e; rw [if_neg h7] at e
        rwa [show -n = x by omega]
theorem un_sound {op x n : Int} {a : Nm} (h : unE op a = 0) (hx : mem a x) (hn : unV op x = n) : vld (unN op a) ∧ mem (unN op a) n := ⟨(un_least h).ok, (un_least h).all _ ⟨x, hx, hn⟩⟩
theorem unV_0 {op x : Int} (h : op = 7) (h2 : ¬ x = 0) : unV op x = 0 := by unfold unV; rw [if_pos h, if_neg h2]
theorem unV_1 {op x : Int} (h : op = 7) (h2 : x = 0) : unV op x = 1 := by unfold unV; rw [if_pos h, if_pos h2]
theorem unV_n {op x : Int} (h : ¬ op = 7) : unV op x = -x := by unfold unV; rw [if_neg h]
theorem un_same {op : Int} {a c : Nm} (ha : vld a) (hc : vld c) : unE op a = unE op c := by
  by_cases h : op = 6 ∨ op = 7
  · rw [unE_0 ⟨ha, h⟩, unE_0 ⟨hc, h⟩]
  · rw [unE_1 (fun q => h q.2), unE_1 (fun q => h q.2)]
theorem un_mono {op : Int} {a c : Nm} (ha : vld a) (hs : sub a c) (h : unE op c = 0) : vld (unN op a) ∧ vld (unN op c) ∧ sub (unN op a) (unN op c) := by
  have h2 : unE op a = 0 := (un_same ha (un_ok0 h).1).trans h
  refine ⟨(un_least h2).ok, (un_least h).ok, (un_least h2).min _ (un_least h).ok ?_⟩
  rintro n ⟨x, hx, e⟩
  exact (un_least h).all _ ⟨x, hs x hx, e⟩
end Go.Proofs.Ytapkilaikcihgaa
