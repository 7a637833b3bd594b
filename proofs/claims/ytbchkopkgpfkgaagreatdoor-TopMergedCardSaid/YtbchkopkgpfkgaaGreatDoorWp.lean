/- Wp. -/
import Derived.Test.YtbchkopkgpfkgaaGreatDoorWb
import Derived.Laws.Strings
namespace Go.Vc
open Go Go.RowKit
theorem ba_inj {a b : ByteArray} (h : a.data.toList = b.data.toList) : a = b := by
  obtain ⟨⟨x⟩⟩ := a
  obtain ⟨⟨y⟩⟩ := b
  simp at h
  rw [h]
theorem fl_len {s : Nat} {f : Nat → List Value} (hf : ∀ i, (f i).length = s) : ∀ n, ((List.range n).flatMap f).length = n * s
  | 0 => by simp
  | n + 1 => by rw [List.range_succ, List.flatMap_append, List.length_append, fl_len hf n]; simp [hf]; rw [Nat.add_mul]; omega
theorem fl_get {s : Nat} {f : Nat → List Value} (hf : ∀ i, (f i).length = s) : ∀ (n i j : Nat), i < n → j < s → ((List.range n).flatMap f)[i * s + j]? = (f i)[j]?
  | 0, i, j, hi, _ => by omega
  | n + 1, i, j, hi, hj => by
    have hl := fl_len hf n
    rw [List.range_succ, List.flatMap_append]
    by_cases e : i < n
    · have hlt : (i + 1) * s ≤ n * s := Nat.mul_le_mul_right s e
      rw [Nat.add_mul, Nat.one_mul] at hlt
      rw [List.getElem?_append_left (by omega)]
      exact fl_get hf n i j e hj
    · have : i = n := by omega
      subst this
      rw [List.getElem?_append_right (by omega), hl, show i * s + j - i * s = j by omega]
      simp
theorem fl_seg {s : Nat} {f : Nat → List Value} (hf : ∀ i, (f i).length = s) {n i o m : Nat} (hi : i < n) (ho : o + m ≤ s) : (((List.range n).flatMap f).drop (i * s + o)).take m = ((f i).drop o).take m := by
  apply List.ext_getElem?
  intro j
  rw [List.getElem?_take, List.getElem?_take]
  split
  · rw [List.getElem?_drop, List.getElem?_drop, Nat.add_assoc, fl_get hf n i (o + j) hi (by omega)]
  · rfl
theorem fl_at {s : Nat} {f : Nat → List Value} (hf : ∀ i, (f i).length = s) {n i : Nat} (hi : i < n) : (((List.range n).flatMap f).drop (i * s)).take s = f i := by
  have := fl_seg hf (o := 0) (m := s) hi (by omega)
  have h2 : (f i).take s = f i := List.take_of_length_le (by rw [hf]; exact Nat.le_refl _)
  rw [Nat.add_zero, List.drop_zero, h2] at this
  exact this
section
variable {P : Program} {C : Cx} {N : Nat} {K : K3} {Q : Ex → K3} {env : Env} {V : HV} {σ : Res} {ops : Array Oper} {rest : List Oper} {w : World}
variable {d k b n s : Nat} {dst : Option Nat} {x y z : Operand} {t T T' T2 E : TypeId} {pos : String} {af : Array Edge} {g : Option (Nat × Bool)} {v : Value} {xs : List Value}
/-- A struct that is a field of an element. -/
theorem qv_ldsf {i : Int} {o m : Nat} {vs : List Value} (hA : AggIs P T m) (hx : ev env x = fptr v i s o) (hv : SlS s V v n xs) (h0 : 0 ≤ i) (h1 : i < n) (ho : o + m ≤ s) (hs : (xs.drop (i.toNat * s + o)).take m = vs) : QV P C ⟨dst, .load T x, t, pos, af, g⟩ env V σ (.agg vs.toArray) := qv_run fun w hm => by
  obtain ⟨b, off, cs, T', fz, c, e, _, e2, _, e4, e5⟩ := (hv.mono hm.view).at h0 h1
  obtain ⟨_, _, _, _, _, hl, _⟩ := hv
  have hlt : (i.toNat + 1) * s ≤ n * s := Nat.mul_le_mul_right s (by omega)
  rw [Nat.add_mul, Nat.one_mul] at hlt
  have hvl : vs.length = m := by rw [← hs, List.length_take, List.length_drop, hl]; omega
  have h0' : w.heap[b]? = some (.cells cs T' fz) := e2
  have h : w.heap[b]? = some (.cells cs.toList.toArray T' fz) := by simpa using h0'
  have hcs : (cs.toList.drop (off + (i.toNat * s + o))).take m = vs := by
    rw [← hs]
    apply List.ext_getElem?
    intro j
    rw [List.getElem?_take, List.getElem?_take]
    split
    · rename_i hj
      have := e5 (o + j) (by omega)
      rw [List.getElem?_drop, List.getElem?_drop, show i.toNat * s + o + j = i.toNat * s + (o + j) by omega, ← this]
      simp [Nat.add_assoc]
    · rfl
  rw [e4 o] at hx
  simp [execOp, hx, Instr.loadAt, Instr.sureAddr, run_loadAgg hA h hcs hvl]
/-- Two strings compared. -/
theorem qv_eqstr {a c : ByteArray} {t2 : TypeId} (hx : ev env x = .string a) (hy : ev env y = .string c) : QV P C ⟨dst, .binOp .eql T x y t2, t, pos, af, g⟩ env V σ (.bool (decide (a = c))) := qv_run fun w _ => by
  have e : (a.toList == c.toList) = decide (a = c) := by
    by_cases h : a = c
    · subst h; simp
    · rw [decide_eq_false h]
      exact beq_eq_false_iff_ne.2 fun q => h (by rw [ByteArray.toList_eq, ByteArray.toList_eq] at q; exact ba_inj q)
  simp [execOp, hx, hy, eqGuard, binOp, Op.stringOp, e]
theorem qv_lenstr {a : ByteArray} {at_ : TypeId} (hT : P.underlying at_ = some .string) (hx : ev env x = .string a) : QV P C ⟨dst, .call { callee := .builtin .len, args := #[x], argTypes := #[at_] }, t, pos, af, g⟩ env V σ (.int .i64 a.size) := qv_run fun w _ => by
  simp [execOp, resolve, invoke, builtin, Builtin.len_, hx, underlying, hT, goInt]
end
end Go.Vc

namespace Go.Proofs.YtbchkopkgpfkgaaGreatDoor
open Go Go.Vc
inductive Tm where
  | mk (op n : Int) (kids : List Tm)
def Tm.op : Tm → Int | .mk o _ _ => o
def Tm.n : Tm → Int | .mk _ n _ => n
def Tm.kids : Tm → List Tm | .mk _ _ k => k
abbrev tm0 : Tm := .mk 0 0 []
abbrev tm (l : List Tm) (i : Int) : Tm := l.getD i.toNat tm0
inductive St where
  | mk (dk cost var n : Int) (tm : Tm) (thn els : List St) (bds : List Int)
def St.dk : St → Int | .mk d _ _ _ _ _ _ _ => d
def St.cost : St → Int | .mk _ c _ _ _ _ _ _ => c
def St.var : St → Int | .mk _ _ v _ _ _ _ _ => v
def St.n : St → Int | .mk _ _ _ n _ _ _ _ => n
def St.tm : St → Tm | .mk _ _ _ _ t _ _ _ => t
def St.thn : St → List St | .mk _ _ _ _ _ l _ _ => l
def St.els : St → List St | .mk _ _ _ _ _ _ l _ => l
def St.bds : St → List Int | .mk _ _ _ _ _ _ _ b => b
abbrev st0 : St := .mk 0 0 0 0 tm0 [] [] []
abbrev st (l : List St) (i : Int) : St := l.getD i.toNat st0
structure Vr where
  nm : ByteArray
  kd : Int
  lo : Int
  hi : Int
  ini : Int
abbrev vr0 : Vr := ⟨⟨#[]⟩, 0, 0, 0, 0⟩
abbrev vr (l : List Vr) (i : Int) : Vr := l.getD i.toNat vr0
structure Ht where
  nm : ByteArray
  lo : Int
  hi : Int
  tm : Tm
abbrev ht0 : Ht := ⟨⟨#[]⟩, 0, 0, tm0⟩
abbrev ht (l : List Ht) (i : Int) : Ht := l.getD i.toNat ht0
structure Fl where
  vs : List Vr
  hs : List Ht
  bd : List St
def tmc (kv : List Value) (l : List Tm) (i : Nat) : List Value := [.int .i64 (tm l i).op, .int .i64 (tm l i).n, gv kv i]
def tmcs (kv : List Value) (l : List Tm) : List Value := (List.range l.length).flatMap (tmc kv l)
inductive Tms (H : HV) : Value → List Tm → Prop
  | mk {v : Value} {l : List Tm} (kv : List Value) (sl : SlS 3 H v l.length (tmcs kv l)) (at_ : ∀ i : Int, 0 ≤ i → i < l.length → Tms H (gv kv i) (tm l i).kids) : Tms H v l
theorem Tms.mono {H H' : HV} (s : Vc.Sub H H') {v : Value} {l : List Tm} (h : Tms H v l) : Tms H' v l := by
  induction h with
  | mk kv sl _ ih => exact .mk kv (sl.mono s) ih
theorem Tms.sl {H : HV} {v : Value} {l : List Tm} (h : Tms H v l) : ∃ xs, SlS 3 H v l.length xs := by cases h with | mk kv sl _ => exact ⟨_, sl⟩
theorem Tms.one {H : HV} {v : Value} {l : List Tm} (h : Tms H v l) : v.oneCell' = true := by cases h with | mk kv sl _ => exact SlS.one sl
theorem Tms.cells {H : HV} {v : Value} {l : List Tm} (h : Tms H v l) : v.cells = [v].toArray := by cases h with | mk kv sl _ => exact SlS.cells sl
theorem tmcs_at {kv : List Value} {l : List Tm} {i : Int} (h0 : 0 ≤ i) (h1 : i < l.length) : ((tmcs kv l).drop (i.toNat * 3)).take 3 = [.int .i64 (tm l i).op, .int .i64 (tm l i).n, gv kv i] := by
  have := fl_at (s := 3) (f := tmc kv l) (fun _ => rfl) (n := l.length) (i := i.toNat) (by omega)
  rw [tmcs, this, tmc, show ((i.toNat : Nat) : Int) = i by omega]
def stc (kv tv ev bv : List Value) (l : List St) (i : Nat) : List Value := [.int .i64 (st l i).dk, .int .i64 (st l i).cost, .int .i64 (st l i).var, .int .i64 (st l i).n, .int .i64 (st l i).tm.op, .int .i64 (st l i).tm.n, gv kv i, gv tv i, gv ev i, gv bv i]
def stcs (kv tv ev bv : List Value) (l : List St) : List Value := (List.range l.length).flatMap (stc kv tv ev bv l)
inductive Sts (H : HV) : Value → List St → Prop
  | mk {v : Value} {l : List St} (kv tv ev bv : List Value) (sl : SlS 10 H v l.length (stcs kv tv ev bv l)) (hk : ∀ i : Int, 0 ≤ i → i < l.length → Tms H (gv kv i) (st l i).tm.kids) (ht : ∀ i : Int, 0 ≤ i → i < l.length → Sts H (gv tv i) (st l i).thn)
      (he : ∀ i : Int, 0 ≤ i → i < l.length → Sts H (gv ev i) (st l i).els) (hb : ∀ i : Int, 0 ≤ i → i < l.length → Ints .i64 H (gv bv i) (st l i).bds) : Sts H v l
theorem Sts.mono {H H' : HV} (s : Vc.Sub H H') {v : Value} {l : List St} (h : Sts H v l) : Sts H' v l := by
  induction h with
  | mk kv tv ev bv sl hk _ _ hb ih1 ih2 => exact .mk kv tv ev bv (sl.mono s) (fun i a b => (hk i a b).mono s) ih1 ih2 (fun i a b => (hb i a b).mono s)
theorem Sts.sl {H : HV} {v : Value} {l : List St} (h : Sts H v l) : ∃ xs, SlS 10 H v l.length xs := by cases h with | mk kv tv ev bv sl _ _ _ _ => exact ⟨_, sl⟩
theorem Sts.one {H : HV} {v : Value} {l : List St} (h : Sts H v l) : v.oneCell' = true := by cases h with | mk kv tv ev bv sl _ _ _ _ => exact SlS.one sl
theorem Sts.cells {H : HV} {v : Value} {l : List St} (h : Sts H v l) : v.cells = [v].toArray := by cases h with | mk kv tv ev bv sl _ _ _ _ => exact SlS.cells sl
abbrev stcl (kv tv ev bv : List Value) (l : List St) (i : Int) : List Value := [.int .i64 (st l i).dk, .int .i64 (st l i).cost, .int .i64 (st l i).var, .int .i64 (st l i).n, .int .i64 (st l i).tm.op, .int .i64 (st l i).tm.n, gv kv i, gv tv i, gv ev i, gv bv i]
theorem stcs_at {kv tv ev bv : List Value} {l : List St} {i : Int} (h0 : 0 ≤ i) (h1 : i < l.length) : ((stcs kv tv ev bv l).drop (i.toNat * 10)).take 10 = stcl kv tv ev bv l i := by
  have := fl_at (s := 10) (f := stc kv tv ev bv l) (fun _ => rfl) (n := l.length) (i := i.toNat) (by omega)
  rw [stcs, this, stc, show ((i.toNat : Nat) : Int) = i by omega]
theorem stcs_el {kv tv ev bv : List Value} {l : List St} {i : Int} {o : Nat} {u : Value} (h0 : 0 ≤ i) (h1 : i < l.length) (ho : o < 10) (hu : (stcl kv tv ev bv l i)[o]? = some u) : (stcs kv tv ev bv l)[i.toNat * 10 + o]? = some u := by
  rw [← hu, ← stcs_at h0 h1, List.getElem?_take, if_pos ho, List.getElem?_drop]
theorem stcs_seg {kv tv ev bv : List Value} {l : List St} {i : Int} {o m : Nat} (h0 : 0 ≤ i) (h1 : i < l.length) (ho : o + m ≤ 10) : ((stcs kv tv ev bv l).drop (i.toNat * 10 + o)).take m = ((stcl kv tv ev bv l i).drop o).take m := by
  have := fl_seg (s := 10) (f := stc kv tv ev bv l) (fun _ => rfl) (n := l.length) (i := i.toNat) (o := o) (m := m) (by omega) ho
  rw [stcs, this, stc, show ((i.toNat : Nat) : Int) = i by omega]
def vrc (l : List Vr) (i : Nat) : List Value := [.string (vr l i).nm, .int .i64 (vr l i).kd, .int .i64 (vr l i).lo, .int .i64 (vr l i).hi, .int .i64 (vr l i).ini]
def vrcs (l : List Vr) : List Value := (List.range l.length).flatMap (vrc l)
def Vrs (H : HV) (v : Value) (l : List Vr) : Prop := SlS 5 H v l.length (vrcs l)
theorem Vrs.mono {H H' : HV} {v : Value} {l : List Vr} (h : Vrs H v l) (s : Vc.Sub H H') : Vrs H' v l := SlS.mono h s
abbrev vrcl (l : List Vr) (i : Int) : List Value := [.string (vr l i).nm, .int .i64 (vr l i).kd, .int .i64 (vr l i).lo, .int .i64 (vr l i).hi, .int .i64 (vr l i).ini]
theorem vrcs_at {l : List Vr} {i : Int} (h0 : 0 ≤ i) (h1 : i < l.length) : ((vrcs l).drop (i.toNat * 5)).take 5 = vrcl l i := by
  have := fl_at (s := 5) (f := vrc l) (fun _ => rfl) (n := l.length) (i := i.toNat) (by omega)
  rw [vrcs, this, vrc, show ((i.toNat : Nat) : Int) = i by omega]
theorem vrcs_el {l : List Vr} {i : Int} {o : Nat} {u : Value} (h0 : 0 ≤ i) (h1 : i < l.length) (ho : o < 5) (hu : (vrcl l i)[o]? = some u) : (vrcs l)[i.toNat * 5 + o]? = some u := by
  rw [← hu, ← vrcs_at h0 h1, List.getElem?_take, if_pos ho, List.getElem?_drop]
def htc (kv : List Value) (l : List Ht) (i : Nat) : List Value := [.string (ht l i).nm, .int .i64 (ht l i).lo, .int .i64 (ht l i).hi, .int .i64 (ht l i).tm.op, .int .i64 (ht l i).tm.n, gv kv i]
def htcs (kv : List Value) (l : List Ht) : List Value := (List.range l.length).flatMap (htc kv l)
structure HtsK (H : HV) (v : Value) (l : List Ht) (kv : List Value) : Prop where
  sl : SlS 6 H v l.length (htcs kv l)
  hk : ∀ i : Int, 0 ≤ i → i < l.length → Tms H (gv kv i) (ht l i).tm.kids
def Hts (H : HV) (v : Value) (l : List Ht) : Prop := ∃ kv, HtsK H v l kv
theorem Hts.mono {H H' : HV} {v : Value} {l : List Ht} (h : Hts H v l) (s : Vc.Sub H H') : Hts H' v l := by
  obtain ⟨kv, h⟩ := h
  exact ⟨kv, h.sl.mono s, fun i a b => (h.hk i a b).mono s⟩
abbrev htcl (kv : List Value) (l : List Ht) (i : Int) : List Value := [.string (ht l i).nm, .int .i64 (ht l i).lo, .int .i64 (ht l i).hi, .int .i64 (ht l i).tm.op, .int .i64 (ht l i).tm.n, gv kv i]
theorem htcs_at {kv : List Value} {l : List Ht} {i : Int} (h0 : 0 ≤ i) (h1 : i < l.length) : ((htcs kv l).drop (i.toNat * 6)).take 6 = htcl kv l i := by
  have := fl_at (s := 6) (f := htc kv l) (fun _ => rfl) (n := l.length) (i := i.toNat) (by omega)
  rw [htcs, this, htc, show ((i.toNat : Nat) : Int) = i by omega]
theorem htcs_el {kv : List Value} {l : List Ht} {i : Int} {o : Nat} {u : Value} (h0 : 0 ≤ i) (h1 : i < l.length) (ho : o < 6) (hu : (htcl kv l i)[o]? = some u) : (htcs kv l)[i.toNat * 6 + o]? = some u := by
  rw [← hu, ← htcs_at h0 h1, List.getElem?_take, if_pos ho, List.getElem?_drop]
theorem htcs_seg {kv : List Value} {l : List Ht} {i : Int} {o m : Nat} (h0 : 0 ≤ i) (h1 : i < l.length) (ho : o + m ≤ 6) : ((htcs kv l).drop (i.toNat * 6 + o)).take m = ((htcl kv l i).drop o).take m := by
  have := fl_seg (s := 6) (f := htc kv l) (fun _ => rfl) (n := l.length) (i := i.toNat) (o := o) (m := m) (by omega) ho
  rw [htcs, this, htc, show ((i.toNat : Nat) : Int) = i by omega]
structure Fls (H : HV) (a b c : Value) (F : Fl) : Prop where
  v : Vrs H a F.vs
  h : Hts H b F.hs
  b : Sts H c F.bd
theorem Fls.mono {H H' : HV} {a b c : Value} {F : Fl} (h : Fls H a b c F) (s : Vc.Sub H H') : Fls H' a b c F := ⟨h.v.mono s, h.h.mono s, h.b.mono s⟩
mutual
def Tm.sz : Tm → Int
  | .mk _ _ k => 1 + szL k
def szL : List Tm → Int
  | [] => 0
  | t :: r => t.sz + szL r
end
mutual
def Tm.dp : Tm → Int
  | .mk _ _ k => dpL k + 1
def dpL : List Tm → Int
  | [] => 0
  | t :: r => if t.dp < dpL r then dpL r else t.dp
end
mutual
theorem Tm.sz_pos : ∀ t : Tm, 1 ≤ t.sz
  | .mk _ _ k => by have := szL_nn k; unfold Tm.sz; omega
theorem szL_nn : ∀ l : List Tm, 0 ≤ szL l
  | [] => Int.le_refl _
  | t :: r => by have := t.sz_pos; have := szL_nn r; unfold szL; omega
end
theorem sz_kids (t : Tm) : t.sz = 1 + szL t.kids := by cases t; rfl
theorem dp_kids (t : Tm) : t.dp = dpL t.kids + 1 := by cases t; rfl
theorem tm_take {l : List Tm} {i : Int} (h0 : 0 ≤ i) (h1 : i < l.length) : l.take (i.toNat + 1) = l.take i.toNat ++ [tm l i] := by
  rw [List.take_add_one, List.getElem?_eq_getElem (by omega)]
  show _ = _ ++ [l.getD i.toNat tm0]
  rw [List.getD_eq_getElem?_getD, List.getElem?_eq_getElem (by omega)]; rfl
theorem szL_app : ∀ a b : List Tm, szL (a ++ b) = szL a + szL b
  | [], b => by show szL b = 0 + _; omega
  | t :: r, b => by show t.sz + szL (r ++ b) = t.sz + szL r + szL b; rw [szL_app r b]; omega
theorem szL_take {l : List Tm} {i : Int} (h0 : 0 ≤ i) (h1 : i < l.length) : szL (l.take (i.toNat + 1)) = szL (l.take i.toNat) + (tm l i).sz := by
  rw [tm_take h0 h1, szL_app]; show _ + ((tm l i).sz + 0) = _; omega
theorem szL_take_le (l : List Tm) (n : Nat) : szL (l.take n) ≤ szL l := by
  have := szL_app (l.take n) (l.drop n)
  rw [List.take_append_drop] at this
  have := szL_nn (l.drop n)
  omega
theorem szL_at {l : List Tm} {i : Int} (h0 : 0 ≤ i) (h1 : i < l.length) : szL (l.take i.toNat) + (tm l i).sz ≤ szL l := by
  rw [← szL_take h0 h1]; exact szL_take_le l _
theorem dpL_at : ∀ {l : List Tm} {i : Nat}, i < l.length → (l.getD i tm0).dp ≤ dpL l
  | t :: r, 0, _ => by show t.dp ≤ if t.dp < dpL r then dpL r else t.dp; split <;> omega
  | t :: r, i + 1, h => by
    have := dpL_at (l := r) (i := i) (by simpa using h)
    show (r.getD i tm0).dp ≤ if t.dp < dpL r then dpL r else t.dp
    split <;> omega
theorem dpL_nn : ∀ l : List Tm, 0 ≤ dpL l
  | [] => Int.le_refl _
  | t :: r => by have := dpL_nn r; show 0 ≤ if t.dp < dpL r then dpL r else t.dp; split <;> omega
theorem dpL_snoc : ∀ (l : List Tm) (t : Tm), dpL (l ++ [t]) = if dpL l < t.dp then t.dp else dpL l
  | [], t => by
    have : 1 ≤ t.dp := by rw [dp_kids]; have := dpL_nn t.kids; omega
    show (if t.dp < 0 then 0 else t.dp) = if 0 < t.dp then t.dp else 0
    rw [if_neg (by omega), if_pos (by omega)]
  | a :: r, t => by
    show (if a.dp < dpL (r ++ [t]) then dpL (r ++ [t]) else a.dp) = if (if a.dp < dpL r then dpL r else a.dp) < t.dp then t.dp else (if a.dp < dpL r then dpL r else a.dp)
    rw [dpL_snoc r t]
    repeat' split
    all_goals omega
theorem dpL_take {l : List Tm} {i : Int} (h0 : 0 ≤ i) (h1 : i < l.length) : dpL (l.take (i.toNat + 1)) = if dpL (l.take i.toNat) < (tm l i).dp then (tm l i).dp else dpL (l.take i.toNat) := by
  rw [tm_take h0 h1, dpL_snoc]
end Go.Proofs.YtbchkopkgpfkgaaGreatDoor

namespace Go.Proofs.YtbchkopkgpfkgaaGreatDoor
open Go Go.Vc
section
variable {α : Type} {F : List α → Int} {f : α → Int} {d : α}
theorem take_snoc {l : List α} {i : Int} (h0 : 0 ≤ i) (h1 : i < l.length) : l.take (i.toNat + 1) = l.take i.toNat ++ [l.getD i.toNat d] := by
  rw [List.take_add_one, List.getElem?_eq_getElem (by omega), List.getD_eq_getElem?_getD, List.getElem?_eq_getElem (by omega)]; rfl
theorem add_app (h0 : F [] = 0) (hc : ∀ a r, F (a :: r) = f a + F r) : ∀ a b : List α, F (a ++ b) = F a + F b
  | [], b => by rw [h0]; show F b = 0 + _; omega
  | t :: r, b => by show F (t :: (r ++ b)) = _; rw [hc, hc, add_app h0 hc r b]; omega
theorem add_take (h0 : F [] = 0) (hc : ∀ a r, F (a :: r) = f a + F r) {l : List α} {i : Int} (i0 : 0 ≤ i) (i1 : i < l.length) : F (l.take (i.toNat + 1)) = F (l.take i.toNat) + f (l.getD i.toNat d) := by
  rw [take_snoc (d := d) i0 i1, add_app h0 hc, hc, h0]; omega
theorem add_nn (h0 : F [] = 0) (hc : ∀ a r, F (a :: r) = f a + F r) (hf : ∀ a, 0 ≤ f a) : ∀ l : List α, 0 ≤ F l
  | [] => by rw [h0]; omega
  | t :: r => by rw [hc]; have := hf t; have := add_nn h0 hc hf r; omega
theorem add_take_le (h0 : F [] = 0) (hc : ∀ a r, F (a :: r) = f a + F r) (hf : ∀ a, 0 ≤ f a) (l : List α) (n : Nat) : F (l.take n) ≤ F l := by
  have := add_app h0 hc (l.take n) (l.drop n)
  rw [List.take_append_drop] at this
  have := add_nn h0 hc hf (l.drop n)
  omega
theorem max_snoc (h0 : F [] = 0) (hc : ∀ a r, F (a :: r) = if f a < F r then F r else f a) (hf : ∀ a, 0 ≤ f a) : ∀ (l : List α) (t : α), F (l ++ [t]) = if F l < f t then f t else F l
  | [], t => by
    show F (t :: []) = _
    rw [hc, h0]; have := hf t
    rw [if_neg (by omega)]; split <;> omega
  | a :: r, t => by
    show F (a :: (r ++ [t])) = _
    rw [hc, hc, max_snoc h0 hc hf r t]
    repeat' split
    all_goals omega
theorem max_take (h0 : F [] = 0) (hc : ∀ a r, F (a :: r) = if f a < F r then F r else f a) (hf : ∀ a, 0 ≤ f a) {l : List α} {i : Int} (i0 : 0 ≤ i) (i1 : i < l.length) :
    F (l.take (i.toNat + 1)) = if F (l.take i.toNat) < f (l.getD i.toNat d) then f (l.getD i.toNat d) else F (l.take i.toNat) := by rw [take_snoc (d := d) i0 i1, max_snoc h0 hc hf]
theorem max_at (hc : ∀ a r, F (a :: r) = if f a < F r then F r else f a) : ∀ {l : List α} {i : Nat}, i < l.length → f (l.getD i d) ≤ F l
  | t :: r, 0, _ => by rw [hc]; show f t ≤ _; split <;> omega
  | t :: r, i + 1, h => by
    have := max_at hc (l := r) (i := i) (by simpa using h)
    rw [hc]; show f (r.getD i d) ≤ _; split <;> omega
end
mutual
def St.nd : St → Int
  | .mk _ _ _ _ t a b _ => 1 + t.sz + nds a + nds b
def nds : List St → Int
  | [] => 0
  | s :: r => s.nd + nds r
end
theorem nd_eq (s : St) : s.nd = 1 + s.tm.sz + nds s.thn + nds s.els := by cases s; rfl
mutual
theorem St.nd_pos : ∀ s : St, 2 ≤ s.nd
  | .mk _ _ _ _ t a b _ => by have := t.sz_pos; have := nds_nn a; have := nds_nn b; unfold St.nd; omega
theorem nds_nn : ∀ l : List St, 0 ≤ nds l
  | [] => Int.le_refl _
  | s :: r => by have := s.nd_pos; have := nds_nn r; unfold nds; omega
end
theorem nds_take {l : List St} {i : Int} (h0 : 0 ≤ i) (h1 : i < l.length) : nds (l.take (i.toNat + 1)) = nds (l.take i.toNat) + (st l i).nd := add_take (f := St.nd) rfl (fun _ _ => rfl) h0 h1
theorem nds_take_le (l : List St) (n : Nat) : nds (l.take n) ≤ nds l := add_take_le (f := St.nd) rfl (fun _ _ => rfl) (fun s => by have := s.nd_pos; omega) l n
theorem nds_at {l : List St} {i : Int} (h0 : 0 ≤ i) (h1 : i < l.length) : nds (l.take i.toNat) + (st l i).nd ≤ nds l := by rw [← nds_take h0 h1]; exact nds_take_le l _
abbrev mxI (a b : Int) : Int := if a < b then b else a
mutual
def St.dp : St → Int
  | .mk _ _ _ _ _ a b _ => mxI (sdp a) (sdp b) + 1
def sdp : List St → Int
  | [] => 0
  | s :: r => if s.dp < sdp r then sdp r else s.dp
end
theorem sd_eq (s : St) : s.dp = mxI (sdp s.thn) (sdp s.els) + 1 := by cases s; rfl
mutual
theorem St.dp_pos : ∀ s : St, 1 ≤ s.dp
  | .mk _ _ _ _ _ a b _ => by have := sdp_nn a; have := sdp_nn b; unfold St.dp mxI; split <;> omega
theorem sdp_nn : ∀ l : List St, 0 ≤ sdp l
  | [] => Int.le_refl _
  | s :: r => by have := s.dp_pos; have := sdp_nn r; unfold sdp; split <;> omega
end
theorem sdp_take {l : List St} {i : Int} (h0 : 0 ≤ i) (h1 : i < l.length) : sdp (l.take (i.toNat + 1)) = if sdp (l.take i.toNat) < (st l i).dp then (st l i).dp else sdp (l.take i.toNat) :=
  max_take (f := St.dp) rfl (fun _ _ => rfl) (fun s => by have := s.dp_pos; omega) h0 h1
theorem sdp_at {l : List St} {i : Int} (h0 : 0 ≤ i) (h1 : i < l.length) : (st l i).dp ≤ sdp l := max_at (f := St.dp) (fun _ _ => rfl) (by omega)
theorem dpL_at' {l : List Tm} {i : Int} (h0 : 0 ≤ i) (h1 : i < l.length) : (tm l i).dp ≤ dpL l := dpL_at (by omega)
mutual
def St.td : St → Prop
  | .mk _ _ _ _ t a b _ => t.dp ≤ 12 ∧ tds a ∧ tds b
def tds : List St → Prop
  | [] => True
  | s :: r => s.td ∧ tds r
end
theorem td_eq (s : St) : s.td ↔ s.tm.dp ≤ 12 ∧ tds s.thn ∧ tds s.els := by cases s; exact Iff.rfl
theorem all_of {α : Type} {F : List α → Prop} {f : α → Prop} {d : α} (h0 : F []) (hc : ∀ a r, F (a :: r) ↔ f a ∧ F r) : ∀ {l : List α}, F l ↔ ∀ i : Int, 0 ≤ i → i < l.length → f (l.getD i.toNat d)
  | [] => ⟨fun _ i a b => absurd b (by simp; omega), fun _ => h0⟩
  | t :: r => by
    rw [hc, all_of h0 hc (l := r) (d := d)]
    constructor
    · rintro ⟨a, b⟩ i i0 i1
      by_cases e : i = 0
      · subst e; exact a
      · have := b (i - 1) (by omega) (by simp at i1; omega)
        rwa [show i.toNat = (i - 1).toNat + 1 by omega]
    · intro h
      refine ⟨h 0 (by omega) (by simp), fun i i0 i1 => ?_⟩
      have := h (i + 1) (by omega) (by simp; omega)
      rwa [show (i + 1).toNat = i.toNat + 1 by omega] at this
theorem tds_iff {l : List St} : tds l ↔ ∀ i : Int, 0 ≤ i → i < l.length → (st l i).td := all_of (f := St.td) trivial (fun _ _ => Iff.rfl)
abbrev mnI (a b : Int) : Int := if a < b then a else b
mutual
def St.uS : St → Int
  | .mk dk _ _ n _ a b _ => if dk = 4 then 1 + n * (1 + ubS a) else 1 + mxI (ubS a) (ubS b)
def ubS : List St → Int
  | [] => 0
  | s :: r => s.uS + ubS r
end
mutual
def St.uO : St → Int
  | .mk dk _ _ n _ a b _ => if dk = 1 then 1 else if dk = 4 then n * ubO a else mxI (ubO a) (ubO b)
def ubO : List St → Int
  | [] => 0
  | s :: r => s.uO + ubO r
end
mutual
def St.uT : St → Int
  | .mk dk c _ n _ a b _ => if dk = 4 then n * (c + ubT a) else c + mxI (ubT a) (ubT b)
def ubT : List St → Int
  | [] => 0
  | s :: r => s.uT + ubT r
end
theorem uS_eq (s : St) : s.uS = if s.dk = 4 then 1 + s.n * (1 + ubS s.thn) else 1 + mxI (ubS s.thn) (ubS s.els) := by cases s; rfl
theorem uO_eq (s : St) : s.uO = if s.dk = 1 then 1 else if s.dk = 4 then s.n * ubO s.thn else mxI (ubO s.thn) (ubO s.els) := by cases s; rfl
theorem uT_eq (s : St) : s.uT = if s.dk = 4 then s.n * (s.cost + ubT s.thn) else s.cost + mxI (ubT s.thn) (ubT s.els) := by cases s; rfl
mutual
def St.nn : St → Prop
  | .mk _ c _ n _ a b _ => 0 ≤ c ∧ 0 ≤ n ∧ nns a ∧ nns b
def nns : List St → Prop
  | [] => True
  | s :: r => s.nn ∧ nns r
end
theorem nn_eq (s : St) : s.nn ↔ 0 ≤ s.cost ∧ 0 ≤ s.n ∧ nns s.thn ∧ nns s.els := by cases s; exact Iff.rfl
theorem nns_iff {l : List St} : nns l ↔ ∀ i : Int, 0 ≤ i → i < l.length → (st l i).nn := all_of (f := St.nn) trivial (fun _ _ => Iff.rfl)
mutual
theorem St.ub_nn : ∀ s : St, s.nn → 1 ≤ s.uS ∧ 0 ≤ s.uO ∧ 0 ≤ s.uT
  | .mk dk c _ n _ a b _ => fun h => by
    obtain ⟨h1, h2, h3, h4⟩ := h
    have x := ubs_nn a h3
    have y := ubs_nn b h4
    have p := Int.mul_nonneg h2 (show 0 ≤ 1 + ubS a by omega)
    have q := Int.mul_nonneg h2 x.2.1
    have r := Int.mul_nonneg h2 (show 0 ≤ c + ubT a by omega)
    unfold St.uS St.uO St.uT mxI
    refine ⟨?_, ?_, ?_⟩
    · split
      · omega
      · split <;> omega
    · split
      · omega
      · split
        · exact q
        · split <;> omega
    · split
      · exact r
      · split <;> omega
theorem ubs_nn : ∀ l : List St, nns l → 0 ≤ ubS l ∧ 0 ≤ ubO l ∧ 0 ≤ ubT l
  | [], _ => ⟨Int.le_refl _, Int.le_refl _, Int.le_refl _⟩
  | s :: r, h => by
    have x := St.ub_nn s h.1
    have y := ubs_nn r h.2
    unfold ubS ubO ubT
    exact ⟨by omega, by omega, by omega⟩
end
end Go.Proofs.YtbchkopkgpfkgaaGreatDoor

namespace Go.Proofs.YtbchkopkgpfkgaaGreatDoor
open Go Go.Vc
mutual
def tlT : Tm → Int → Int
  | .mk _ _ k, x => tlL k (x - 1)
def tlL : List Tm → Int → Int
  | [], x => x
  | t :: r, x => if 0 ≤ x then tlL r (tlT t x) else x
end
theorem tlT_eq (t : Tm) (x : Int) : tlT t x = tlL t.kids (x - 1) := by cases t; rfl
theorem tlL_c {t : Tm} {r : List Tm} {x : Int} : tlL (t :: r) x = if 0 ≤ x then tlL r (tlT t x) else x := rfl
theorem tlL_neg {l : List Tm} {x : Int} (h : x < 0) : tlL l x = x := by
  cases l with
  | nil => rfl
  | cons t r => rw [tlL_c, if_neg (by omega)]
theorem drop_cons {α : Type} {l : List α} {d : α} {i : Int} (h0 : 0 ≤ i) (h1 : i < l.length) : l.drop i.toNat = l.getD i.toNat d :: l.drop (i + 1).toNat := by
  rw [show (i + 1).toNat = i.toNat + 1 by omega, List.drop_eq_getElem_cons (by omega), List.getD_eq_getElem?_getD, List.getElem?_eq_getElem (by omega)]; rfl
theorem tm_drop {l : List Tm} {i : Int} (h0 : 0 ≤ i) (h1 : i < l.length) : l.drop i.toNat = tm l i :: l.drop (i + 1).toNat := drop_cons h0 h1
theorem st_drop {l : List St} {i : Int} (h0 : 0 ≤ i) (h1 : i < l.length) : l.drop i.toNat = st l i :: l.drop (i + 1).toNat := drop_cons h0 h1
mutual
theorem tl_bd : ∀ (t : Tm) (x : Int), (-2 ≤ tlT t x ∨ x - 1 ≤ tlT t x) ∧ tlT t x ≤ x ∧ (0 ≤ tlT t x → tlT t x = x - t.sz)
  | .mk _ _ k, x => by
    have := tlL_bd k (x - 1)
    unfold tlT Tm.sz
    omega
theorem tlL_bd : ∀ (l : List Tm) (x : Int), (-2 ≤ tlL l x ∨ x ≤ tlL l x) ∧ tlL l x ≤ x ∧ (0 ≤ tlL l x → tlL l x = x - szL l)
  | [], x => by show (-2 ≤ x ∨ x ≤ x) ∧ x ≤ x ∧ (0 ≤ x → x = x - 0); omega
  | t :: r, x => by
    rw [tlL_c]
    split
    · have a := tl_bd t x
      have b := tlL_bd r (tlT t x)
      show _ ∧ _ ∧ (_ → _ = x - (t.sz + szL r))
      omega
    · exact ⟨.inr (Int.le_refl _), Int.le_refl _, fun q => by omega⟩
end
mutual
def slT : St → Int → Int
  | .mk _ _ _ _ t a b bd, x => if tlT t (x - 1) < bd.length then -1 else slL b (slL a (tlT t (x - 1) - bd.length))
def slL : List St → Int → Int
  | [], x => x
  | s :: r, x => if 0 ≤ x then slL r (slT s x) else x
end
theorem slT_eq (s : St) (x : Int) : slT s x = if tlT s.tm (x - 1) < s.bds.length then -1 else slL s.els (slL s.thn (tlT s.tm (x - 1) - s.bds.length)) := by cases s; rfl
theorem slL_c {s : St} {r : List St} {x : Int} : slL (s :: r) x = if 0 ≤ x then slL r (slT s x) else x := rfl
theorem slL_neg {l : List St} {x : Int} (h : x < 0) : slL l x = x := by
  cases l with
  | nil => rfl
  | cons t r => rw [slL_c, if_neg (by omega)]
mutual
theorem sl_bd : ∀ (s : St) {x : Int}, 0 ≤ x → -2 ≤ slT s x ∧ slT s x ≤ x ∧ (0 ≤ slT s x → slT s x ≤ x - s.nd)
  | .mk _ _ _ _ t a b bd, x, h => by
    have y := tl_bd t (x - 1)
    unfold slT St.nd
    split
    · refine ⟨by omega, by omega, fun q => by omega⟩
    · have p := slL_bd a (x := tlT t (x - 1) - bd.length) (by omega)
      have q := slL_bd b (x := slL a (tlT t (x - 1) - bd.length)) (by omega)
      omega
theorem slL_bd : ∀ (l : List St) {x : Int}, -2 ≤ x → -2 ≤ slL l x ∧ slL l x ≤ x ∧ (0 ≤ slL l x → slL l x ≤ x - nds l)
  | [], x, h => by show -2 ≤ x ∧ x ≤ x ∧ (0 ≤ x → x ≤ x - 0); omega
  | s :: r, x, h => by
    rw [slL_c]
    split
    · have a := sl_bd s (x := x) (by omega)
      have b := slL_bd r (x := slT s x) (by omega)
      show _ ∧ _ ∧ (_ → _ ≤ x - (s.nd + nds r))
      omega
    · exact ⟨h, Int.le_refl _, fun q => by omega⟩
end
/-- The same over the hatches. -/
def tlH : List Ht → Int → Int
  | [], x => x
  | h :: r, x => tlH r (tlT h.tm x)
def hsz : List Ht → Int
  | [] => 0
  | h :: r => h.tm.sz + hsz r
theorem hsz_nn : ∀ l : List Ht, 0 ≤ hsz l
  | [] => Int.le_refl _
  | h :: r => by have := h.tm.sz_pos; have := hsz_nn r; unfold hsz; omega
theorem tlH_bd : ∀ (l : List Ht) (x : Int), tlH l x ≤ x ∧ (0 ≤ tlH l x → tlH l x = x - hsz l)
  | [], x => ⟨Int.le_refl _, fun _ => by show x = x - 0; omega⟩
  | h :: r, x => by
    have a := tl_bd h.tm x
    have b := tlH_bd r (tlT h.tm x)
    show tlH r _ ≤ x ∧ (0 ≤ tlH r _ → tlH r _ = x - (h.tm.sz + hsz r))
    omega
theorem ht_drop {l : List Ht} {i : Int} (h0 : 0 ≤ i) (h1 : i < l.length) : l.drop i.toNat = ht l i :: l.drop (i + 1).toNat := drop_cons h0 h1
theorem hsz_take {l : List Ht} {i : Int} (h0 : 0 ≤ i) (h1 : i < l.length) : hsz (l.take (i.toNat + 1)) = hsz (l.take i.toNat) + (ht l i).tm.sz := add_take (f := fun h : Ht => h.tm.sz) rfl (fun _ _ => rfl) h0 h1
theorem hsz_take_le (l : List Ht) (n : Nat) : hsz (l.take n) ≤ hsz l := add_take_le (f := fun h : Ht => h.tm.sz) rfl (fun _ _ => rfl) (fun s => by have := s.tm.sz_pos; omega) l n
theorem hsz_at {l : List Ht} {i : Int} (h0 : 0 ≤ i) (h1 : i < l.length) : hsz (l.take i.toNat) + (ht l i).tm.sz ≤ hsz l := by rw [← hsz_take h0 h1]; exact hsz_take_le l _
/-- What the look at the size says. -/
def FewP (F : Fl) (v n : Int) : Prop := ¬ (v < F.vs.length ∨ v < F.hs.length) ∧ 0 ≤ tlH F.hs (slL F.bd n)
theorem few_sz {F : Fl} {v n : Int} (h : FewP F v n) (hn : 0 ≤ n) : F.vs.length ≤ v ∧ F.hs.length ≤ v ∧ nds F.bd + hsz F.hs ≤ n := by
  obtain ⟨a, b⟩ := h
  have x := tlH_bd F.hs (slL F.bd n)
  have y := slL_bd F.bd (x := n) (by omega)
  have z := hsz_nn F.hs
  omega
mutual
theorem dp_sz : ∀ t : Tm, t.dp ≤ t.sz
  | .mk _ _ k => by have := dpL_szL k; unfold Tm.dp Tm.sz; omega
theorem dpL_szL : ∀ l : List Tm, dpL l ≤ szL l
  | [] => Int.le_refl _
  | t :: r => by
    have := dp_sz t; have := dpL_szL r; have := t.sz_pos; have := szL_nn r
    unfold dpL szL; split <;> omega
end
mutual
theorem sdp_nd : ∀ s : St, s.dp ≤ s.nd
  | .mk _ _ _ _ t a b _ => by
    have := sdp_nds a; have := sdp_nds b; have := t.sz_pos; have := nds_nn a; have := nds_nn b
    unfold St.dp St.nd mxI; split <;> omega
theorem sdp_nds : ∀ l : List St, sdp l ≤ nds l
  | [] => Int.le_refl _
  | s :: r => by
    have := sdp_nd s; have := sdp_nds r; have := s.nd_pos; have := nds_nn r
    unfold sdp nds; split <;> omega
end
def SzOk (F : Fl) : Prop := ¬ ((64 : Int) < F.vs.length ∨ (8 : Int) < F.hs.length) ∧ (∀ i : Int, 0 ≤ i → i < F.hs.length → ¬ 12 < (ht F.hs i).tm.dp) ∧ nds F.bd + hsz F.hs ≤ 1024 ∧ sdp F.bd ≤ 12 ∧ tds F.bd
end Go.Proofs.YtbchkopkgpfkgaaGreatDoor

namespace Go.Proofs.YtbchkopkgpfkgaaGreatDoor
open Go Go.Vc
/-- The first code that is not 0. -/
def fnz (e : Int → Int) : Nat → Int
  | 0 => 0
  | n + 1 => if fnz e n ≠ 0 then fnz e n else e n
theorem fnz_all {e : Int → Int} : ∀ {n : Nat}, (∀ x : Int, 0 ≤ x → x < n → e x = 0) → fnz e n = 0
  | 0, _ => rfl
  | n + 1, h => by
    have := fnz_all (e := e) (n := n) fun x a b => h x a (by omega)
    unfold fnz; rw [if_neg (fun q => q this)]; exact h n (by omega) (by omega)
theorem fnz_0 {e : Int → Int} : ∀ {n : Nat}, fnz e n = 0 → ∀ x : Int, 0 ≤ x → x < n → e x = 0
  | 0, _, x, a, b => by omega
  | n + 1, h, x, a, b => by
    unfold fnz at h
    by_cases q : fnz e n = 0
    · rw [if_neg (fun z => z q)] at h
      by_cases w : x = n
      · subst w; exact h
      · exact fnz_0 q x a (by omega)
    · rw [if_pos q] at h; exact absurd h q
theorem fnz_hit {e : Int → Int} {i : Int} (h0 : ∀ x : Int, 0 ≤ x → x < i → e x = 0) (h1 : e i ≠ 0) (i0 : 0 ≤ i) : ∀ {n : Nat}, i < n → fnz e n = e i
  | 0, h => by omega
  | n + 1, h => by
    unfold fnz
    by_cases w : i = n
    · have z : fnz e n = 0 := fnz_all fun x a b => h0 x a (by omega)
      rw [if_neg (fun q => q z), w]
    · have := fnz_hit h0 h1 i0 (n := n) (by omega)
      rw [this, if_pos h1]
def lett (c : Int) : Prop := 97 ≤ c ∧ c ≤ 122
def othr (c : Int) : Prop := (48 ≤ c ∧ c ≤ 57) ∨ c = 46 ∨ c = 95
def chOk (s : ByteArray) (i : Int) : Prop := lett (sAt s i) ∨ (i ≠ 0 ∧ othr (sAt s i))
def NameOk (s : ByteArray) : Prop := ¬ ((s.size : Int) < 1 ∨ (40 : Int) < s.size) ∧ ∀ i : Int, 0 ≤ i → i < s.size → chOk s i
def bndP (lo hi : Int) : Prop := lo ≤ hi ∧ -1048576 ≤ lo ∧ hi ≤ 1048576
def kdBad (k : Int) : Prop := k ≠ 0 ∧ k ≠ 1 ∧ k ≠ 2 ∧ k ≠ 3
def iniBad (v : Vr) : Prop := (v.kd = 0 ∧ (v.ini < v.lo ∨ v.hi < v.ini)) ∨ (v.kd ≠ 0 ∧ v.ini ≠ 0)
open Classical in
noncomputable def cvE (vs : List Vr) (i : Int) : Int :=
  if ¬ NameOk (vr vs i).nm then 7 else if ∃ j : Int, 0 ≤ j ∧ j < i ∧ (vr vs j).nm = (vr vs i).nm then 8 else if kdBad (vr vs i).kd then 1 else if ¬ bndP (vr vs i).lo (vr vs i).hi then 3 else if iniBad (vr vs i) then 3 else 0
section
variable {vs : List Vr} {i : Int}
theorem cv_7 (h : ¬ NameOk (vr vs i).nm) : cvE vs i = 7 := if_pos h
theorem cv_8 (h : NameOk (vr vs i).nm) {j : Int} (j0 : 0 ≤ j) (j1 : j < i) (e : (vr vs j).nm = (vr vs i).nm) : cvE vs i = 8 := by unfold cvE; rw [if_neg (fun q => q h), if_pos ⟨j, j0, j1, e⟩]
theorem cv_1 (h : NameOk (vr vs i).nm) (h2 : ∀ j : Int, 0 ≤ j → j < i → ¬ (vr vs j).nm = (vr vs i).nm) (h3 : kdBad (vr vs i).kd) : cvE vs i = 1 := by
  unfold cvE; rw [if_neg (fun q => q h), if_neg (fun ⟨j, a, b, c⟩ => h2 j a b c), if_pos h3]
theorem cv_3 (h : NameOk (vr vs i).nm) (h2 : ∀ j : Int, 0 ≤ j → j < i → ¬ (vr vs j).nm = (vr vs i).nm) (h3 : ¬ kdBad (vr vs i).kd) (h4 : ¬ bndP (vr vs i).lo (vr vs i).hi ∨ iniBad (vr vs i)) : cvE vs i = 3 := by
  unfold cvE; rw [if_neg (fun q => q h), if_neg (fun ⟨j, a, b, c⟩ => h2 j a b c), if_neg h3]
  split
  · rfl
  · exact if_pos (h4.resolve_left (by assumption))
theorem cv_0 : cvE vs i = 0 ↔ NameOk (vr vs i).nm ∧ (∀ j : Int, 0 ≤ j → j < i → ¬ (vr vs j).nm = (vr vs i).nm) ∧ ¬ kdBad (vr vs i).kd ∧ bndP (vr vs i).lo (vr vs i).hi ∧ ¬ iniBad (vr vs i) := by
  constructor
  · intro h
    by_cases a : NameOk (vr vs i).nm
    · by_cases b : ∃ j : Int, 0 ≤ j ∧ j < i ∧ (vr vs j).nm = (vr vs i).nm
      · obtain ⟨j, b1, b2, b3⟩ := b; rw [cv_8 a b1 b2 b3] at h; omega
      · have b' : ∀ j : Int, 0 ≤ j → j < i → ¬ (vr vs j).nm = (vr vs i).nm := fun j x y z => b ⟨j, x, y, z⟩
        by_cases c : kdBad (vr vs i).kd
        · rw [cv_1 a b' c] at h; omega
        · by_cases d : ¬ bndP (vr vs i).lo (vr vs i).hi ∨ iniBad (vr vs i)
          · rw [cv_3 a b' c d] at h; omega
          · exact ⟨a, b', c, Classical.byContradiction fun q => d (.inl q), fun q => d (.inr q)⟩
    · rw [cv_7 a] at h; omega
  · rintro ⟨a, b, c, d, e⟩
    unfold cvE; rw [if_neg (fun q => q a), if_neg (fun ⟨j, x, y, z⟩ => b j x y z), if_neg c, if_neg (fun q => q d), if_neg e]
end
/-- The number of the vectors of a kind. -/
def spc : List Vr → Int → Int
  | [], _ => 1
  | v :: r, k => if v.kd = k then (v.hi - v.lo + 1) * spc r k else spc r k
/-- The same as far as the program reckons. -/
def spK : List Vr → Int → Int → Int
  | [], _, n => n
  | v :: r, k, n => if v.kd ≠ k then spK r k n else if 4096 < n * (v.hi - v.lo + 1) then 4097 else spK r k (n * (v.hi - v.lo + 1))
theorem vr_drop {l : List Vr} {i : Int} (h0 : 0 ≤ i) (h1 : i < l.length) : l.drop i.toNat = vr l i :: l.drop (i + 1).toNat := drop_cons h0 h1
theorem spc_pos : ∀ {l : List Vr} {k : Int}, (∀ v ∈ l, v.lo ≤ v.hi) → 1 ≤ spc l k
  | [], _, _ => Int.le_refl _
  | v :: r, k, h => by
    have a := spc_pos (l := r) (k := k) fun w q => h w (List.mem_cons_of_mem _ q)
    have b := h v (List.mem_cons_self ..)
    unfold spc
    split
    · have := Int.mul_le_mul (show (1 : Int) ≤ v.hi - v.lo + 1 by omega) a (by omega) (by omega)
      omega
    · exact a
theorem spK_eq : ∀ {l : List Vr} {k n : Int}, (∀ v ∈ l, v.lo ≤ v.hi) → 1 ≤ n → n ≤ 4096 → spK l k n = if 4096 < n * spc l k then 4097 else n * spc l k
  | [], k, n, _, _, h => by show n = if 4096 < n * 1 then 4097 else n * 1; rw [Int.mul_one, if_neg (by omega)]
  | v :: r, k, n, h, n1, n2 => by
    have hr : ∀ w ∈ r, w.lo ≤ w.hi := fun w q => h w (List.mem_cons_of_mem _ q)
    have b := h v (List.mem_cons_self ..)
    unfold spK spc
    by_cases e : v.kd = k
    · rw [if_neg (fun q => q e), if_pos e, ← Int.mul_assoc]
      have p1 := spc_pos (k := k) hr
      have p2 : n * 1 ≤ n * (v.hi - v.lo + 1) := Int.mul_le_mul_of_nonneg_left (by omega) (by omega)
      by_cases c : 4096 < n * (v.hi - v.lo + 1)
      · rw [if_pos c]
        have p3 : n * (v.hi - v.lo + 1) * 1 ≤ n * (v.hi - v.lo + 1) * spc r k := Int.mul_le_mul_of_nonneg_left p1 (by omega)
        rw [if_pos (by omega)]
      · rw [if_neg c, spK_eq hr (by omega) (by omega)]
    · rw [if_pos e, if_neg e, spK_eq hr n1 n2]
/-- The code of the variables. -/
noncomputable def cvC (vs : List Vr) : Int := if fnz (cvE vs) vs.length ≠ 0 then fnz (cvE vs) vs.length else if 4096 < spK vs 1 1 ∨ 4096 < spK vs 2 1 ∨ 256 < spK vs 3 1 then 4 else 0
structure VarsOk (vs : List Vr) : Prop where
  each : ∀ i : Int, 0 ≤ i → i < vs.length → NameOk (vr vs i).nm ∧ (∀ j : Int, 0 ≤ j → j < i → ¬ (vr vs j).nm = (vr vs i).nm) ∧ ¬ kdBad (vr vs i).kd ∧ bndP (vr vs i).lo (vr vs i).hi ∧ ¬ iniBad (vr vs i)
  s1 : spc vs 1 ≤ 4096
  s2 : spc vs 2 ≤ 4096
  s3 : spc vs 3 ≤ 256
theorem vr_mem {l : List Vr} {v : Vr} (h : v ∈ l) : ∃ i : Int, 0 ≤ i ∧ i < l.length ∧ vr l i = v := by
  obtain ⟨i, hi, e⟩ := List.mem_iff_getElem.1 h
  exact ⟨i, by omega, by omega, by unfold vr; rw [List.getD_eq_getElem?_getD, Int.toNat_natCast, List.getElem?_eq_getElem hi, ← e]; rfl⟩
theorem vr_in {l : List Vr} {i : Int} (h0 : 0 ≤ i) (h1 : i < l.length) : vr l i ∈ l := by
  unfold vr; rw [List.getD_eq_getElem?_getD, List.getElem?_eq_getElem (by omega)]; exact List.getElem_mem _
theorem VarsOk.ord {vs : List Vr} (h : VarsOk vs) : ∀ v ∈ vs, v.lo ≤ v.hi ∧ -1048576 ≤ v.lo ∧ v.hi ≤ 1048576 := fun v hv => by
  obtain ⟨i, a, b, rfl⟩ := vr_mem hv
  exact (h.each i a b).2.2.2.1
theorem cvC_0 {vs : List Vr} (h : cvC vs = 0) : VarsOk vs := by
  unfold cvC at h
  by_cases q : fnz (cvE vs) vs.length = 0
  · rw [if_neg (fun z => z q)] at h
    have e := fun i a b => cv_0.1 (fnz_0 q i a b)
    by_cases w : 4096 < spK vs 1 1 ∨ 4096 < spK vs 2 1 ∨ 256 < spK vs 3 1
    · rw [if_pos w] at h; omega
    · have ho : ∀ v ∈ vs, v.lo ≤ v.hi := fun v hv => by
        obtain ⟨i, a, b, rfl⟩ := vr_mem hv
        exact (e i a b).2.2.2.1.1
      have k : ∀ k : Int, spK vs k 1 = if 4096 < spc vs k then 4097 else spc vs k := fun k => by
        have := spK_eq (k := k) ho (Int.le_refl 1) (by omega)
        rwa [Int.one_mul] at this
      have k1 := k 1
      have k2 := k 2
      have k3 := k 3
      refine ⟨e, ?_, ?_, ?_⟩
      · split at k1 <;> omega
      · split at k2 <;> omega
      · split at k3 <;> omega
  · rw [if_pos q] at h; exact absurd h q
def knR (op : Int) : Int := if op = 0 ∨ op = 24 then 0 else if op = 6 ∨ op = 7 then 1 else if 8 ≤ op ∧ op ≤ 22 then 2 else if op = 23 then 3 else if op = 25 then -2 else -1
/-- A wrong number of kids. -/
def kBad (op k : Int) : Prop := knR op = -1 ∨ (0 ≤ knR op ∧ k ≠ knR op) ∨ (knR op = -2 ∧ (k < 2 ∨ 33 < k))
def nBad (vs : List Vr) (inp : Bool) (op n : Int) : Prop := (op = 24 ∧ ((n < 0 ∨ vs.length ≤ n) ∨ (inp = true ∧ (vr vs n).kd = 0))) ∨ (¬ op = 24 ∧ op ≠ 0 ∧ n ≠ 0)
theorem kb1 {op k : Int} (h : ¬ kBad op k) (e : op = 6 ∨ op = 7) : k = 1 := by unfold kBad knR at h; rw [if_neg (by omega), if_pos e] at h; omega
theorem kb2 {op k : Int} (h : ¬ kBad op k) (e : 8 ≤ op ∧ op ≤ 22) : k = 2 := by unfold kBad knR at h; rw [if_neg (by omega), if_neg (by omega), if_pos e] at h; omega
theorem kb3 {op k : Int} (h : ¬ kBad op k) (e : op = 23) : k = 3 := by unfold kBad knR at h; rw [if_neg (by omega), if_neg (by omega), if_neg (by omega), if_pos e] at h; omega
theorem kb4 {op k : Int} (h : ¬ kBad op k) (e : op = 25) : 2 ≤ k ∧ k ≤ 33 := by unfold kBad knR at h; rw [if_neg (by omega), if_neg (by omega), if_neg (by omega), if_neg (by omega), if_pos e] at h; omega
theorem kb_le {op k : Int} (h : ¬ kBad op k) : k ≤ 33 := by unfold kBad knR at h; omega
mutual
def fmd (vs : List Vr) (inp : Bool) : Tm → Prop
  | .mk op n k => ¬ kBad op k.length ∧ ¬ nBad vs inp op n ∧ fmdL vs inp k
def fmdL (vs : List Vr) (inp : Bool) : List Tm → Prop
  | [] => True
  | t :: r => fmd vs inp t ∧ fmdL vs inp r
end
theorem fmd_eq {vs : List Vr} {inp : Bool} (t : Tm) : fmd vs inp t ↔ ¬ kBad t.op t.kids.length ∧ ¬ nBad vs inp t.op t.n ∧ fmdL vs inp t.kids := by cases t; exact Iff.rfl
theorem fmdL_iff {vs : List Vr} {inp : Bool} {l : List Tm} : fmdL vs inp l ↔ ∀ i : Int, 0 ≤ i → i < l.length → fmd vs inp (tm l i) := all_of (f := fmd vs inp) trivial (fun _ _ => Iff.rfl)
abbrev Pr2 := Int × Int
def hulL (a : Pr2) (l : List Pr2) : Pr2 := l.foldl (fun a r => (mnI a.1 r.1, mxI a.2 r.2)) a
abbrev pg (l : List Pr2) (i : Int) : Pr2 := l.getD i.toNat (0, 0)
def rul (vs : List Vr) (op n : Int) (k : List Pr2) : Pr2 :=
  if op = 0 then (if n < -1048576 ∨ 1048576 < n then (-1048577, 1048577) else (n, n))
  else if op = 24 then ((vr vs n).lo, (vr vs n).hi)
  else if op = 6 then (-(pg k 0).2, -(pg k 0).1)
  else if op = 8 then ((pg k 0).1 + (pg k 1).1, (pg k 0).2 + (pg k 1).2)
  else if op = 9 then ((pg k 0).1 - (pg k 1).2, (pg k 0).2 - (pg k 1).1)
  else if op = 10 then (mnI (mnI ((pg k 0).1 * (pg k 1).1) ((pg k 0).1 * (pg k 1).2)) (mnI ((pg k 0).2 * (pg k 1).1) ((pg k 0).2 * (pg k 1).2)), mxI (mxI ((pg k 0).1 * (pg k 1).1) ((pg k 0).1 * (pg k 1).2)) (mxI ((pg k 0).2 * (pg k 1).1) ((pg k 0).2 * (pg k 1).2)))
  else if op = 11 then (if 0 ≤ (pg k 0).1 ∧ 0 ≤ (pg k 1).1 then (0, mxI (mxI (pg k 0).1 (-(pg k 0).1)) (mxI (pg k 0).2 (-(pg k 0).2))) else (-mxI (mxI (pg k 0).1 (-(pg k 0).1)) (mxI (pg k 0).2 (-(pg k 0).2)), mxI (mxI (pg k 0).1 (-(pg k 0).1)) (mxI (pg k 0).2 (-(pg k 0).2))))
  else if op = 12 then ((if (pg k 1).1 < 0 then mnI 0 ((pg k 1).1 + 1) else 0), (if 0 < (pg k 1).2 then mxI 0 ((pg k 1).2 - 1) else 0))
  else if op = 21 then (mnI (pg k 0).1 (pg k 1).1, mnI (pg k 0).2 (pg k 1).2)
  else if op = 22 then (mxI (pg k 0).1 (pg k 1).1, mxI (pg k 0).2 (pg k 1).2)
  else if op = 23 ∨ op = 25 then hulL (pg k 1) (k.drop 2)
  else (0, 1)
def wiM (r : Pr2) : Prop := -1048576 ≤ r.1 ∧ r.2 ≤ 1048576
mutual
def rg (vs : List Vr) : Tm → Pr2
  | .mk op n k => rul vs op n (rgL vs k)
def rgL (vs : List Vr) : List Tm → List Pr2
  | [] => []
  | t :: r => rg vs t :: rgL vs r
end
mutual
def rgo (vs : List Vr) : Tm → Prop
  | .mk op n k => rgoL vs k ∧ wiM (rul vs op n (rgL vs k))
def rgoL (vs : List Vr) : List Tm → Prop
  | [] => True
  | t :: r => rgo vs t ∧ rgoL vs r
end
theorem rg_eq {vs : List Vr} (t : Tm) : rg vs t = rul vs t.op t.n (rgL vs t.kids) := by cases t; rfl
theorem rgo_eq {vs : List Vr} (t : Tm) : rgo vs t ↔ rgoL vs t.kids ∧ wiM (rg vs t) := by cases t; exact Iff.rfl
theorem rgoL_iff {vs : List Vr} {l : List Tm} : rgoL vs l ↔ ∀ i : Int, 0 ≤ i → i < l.length → rgo vs (tm l i) := all_of (f := rgo vs) trivial (fun _ _ => Iff.rfl)
theorem rgL_map (vs : List Vr) : ∀ l : List Tm, rgL vs l = l.map (rg vs)
  | [] => rfl
  | t :: r => by show rg vs t :: rgL vs r = _; rw [rgL_map vs r]; rfl
theorem rgL_len (vs : List Vr) (l : List Tm) : (rgL vs l).length = l.length := by rw [rgL_map, List.length_map]
/-- A range that the rules allow. -/
def gdR (r : Pr2) : Prop := -1048576 ≤ r.1 ∧ r.1 ≤ r.2 ∧ r.2 ≤ 1048576
theorem hul_le : ∀ (l : List Pr2) (a : Pr2), (hulL a l).1 ≤ a.1 ∧ a.2 ≤ (hulL a l).2
  | [], a => ⟨Int.le_refl _, Int.le_refl _⟩
  | r :: l, a => by
    have := hul_le l (mnI a.1 r.1, mxI a.2 r.2)
    show (hulL (mnI a.1 r.1, mxI a.2 r.2) l).1 ≤ _ ∧ _ ≤ (hulL (mnI a.1 r.1, mxI a.2 r.2) l).2
    have h1 : mnI a.1 r.1 ≤ a.1 := by unfold mnI; split <;> omega
    have h2 : a.2 ≤ mxI a.2 r.2 := by unfold mxI; split <;> omega
    exact ⟨Int.le_trans this.1 h1, Int.le_trans h2 this.2⟩
theorem mn_le_mx {a b c d : Int} : mnI (mnI a b) (mnI c d) ≤ mxI (mxI a b) (mxI c d) := by
  have h1 : mnI (mnI a b) (mnI c d) ≤ a := by unfold mnI; repeat' split
                                              all_goals omega
  have h2 : a ≤ mxI (mxI a b) (mxI c d) := by unfold mxI; repeat' split
                                              all_goals omega
  omega
theorem rul_e {vs : List Vr} {op n : Int} {k : List Pr2} (h : ¬ (op = 0 ∨ op = 24 ∨ op = 6 ∨ op = 8 ∨ op = 9 ∨ op = 10 ∨ op = 11 ∨ op = 12 ∨ op = 21 ∨ op = 22 ∨ op = 23 ∨ op = 25)) : rul vs op n k = (0, 1) := by
  unfold rul
  rw [if_neg (by omega), if_neg (by omega), if_neg (by omega), if_neg (by omega), if_neg (by omega), if_neg (by omega), if_neg (by omega), if_neg (by omega), if_neg (by omega), if_neg (by omega), if_neg (by omega)]
theorem mx4_bd {a b : Int} (h1 : -1048576 ≤ a) (h2 : a ≤ b) (h3 : b ≤ 1048576) : 0 ≤ mxI (mxI a (-a)) (mxI b (-b)) ∧ mxI (mxI a (-a)) (mxI b (-b)) ≤ 1048576 := by unfold mxI; constructor <;> (repeat' split) <;> omega
theorem rul_0a {vs : List Vr} {n : Int} {k : List Pr2} (h : n < -1048576 ∨ 1048576 < n) : rul vs 0 n k = (-1048577, 1048577) := if_pos h
theorem rul_0b {vs : List Vr} {n : Int} {k : List Pr2} (h : ¬ (n < -1048576 ∨ 1048576 < n)) : rul vs 0 n k = (n, n) := if_neg h
theorem rul_11a {vs : List Vr} {n : Int} {k : List Pr2} (h : 0 ≤ (pg k 0).1 ∧ 0 ≤ (pg k 1).1) : rul vs 11 n k = (0, mxI (mxI (pg k 0).1 (-(pg k 0).1)) (mxI (pg k 0).2 (-(pg k 0).2))) := if_pos h
theorem rul_11b {vs : List Vr} {n : Int} {k : List Pr2} (h : ¬ (0 ≤ (pg k 0).1 ∧ 0 ≤ (pg k 1).1)) : rul vs 11 n k = (-mxI (mxI (pg k 0).1 (-(pg k 0).1)) (mxI (pg k 0).2 (-(pg k 0).2)), mxI (mxI (pg k 0).1 (-(pg k 0).1)) (mxI (pg k 0).2 (-(pg k 0).2))) := if_neg h
theorem rul_le {vs : List Vr} {op n : Int} {k : List Pr2} (h : ∀ j : Int, gdR (pg k j)) (hv : op = 24 → (vr vs n).lo ≤ (vr vs n).hi) : (rul vs op n k).1 ≤ (rul vs op n k).2 := by
  have h0 := h 0
  have h1 := h 1
  by_cases e : op = 0
  · subst e
    show (if n < -1048576 ∨ 1048576 < n then ((-1048577, 1048577) : Pr2) else (n, n)).1 ≤ (if n < -1048576 ∨ 1048576 < n then ((-1048577, 1048577) : Pr2) else (n, n)).2
    split
    · show (-1048577 : Int) ≤ 1048577; omega
    · exact Int.le_refl _
  by_cases e : op = 24
  · have := hv e
    subst e; exact this
  by_cases e : op = 6
  · subst e
    show -(pg k 0).2 ≤ -(pg k 0).1
    have := h0.2.1; omega
  by_cases e : op = 8
  · subst e
    show (pg k 0).1 + (pg k 1).1 ≤ (pg k 0).2 + (pg k 1).2
    have := h0.2.1; have := h1.2.1; omega
  by_cases e : op = 9
  · subst e
    show (pg k 0).1 - (pg k 1).2 ≤ (pg k 0).2 - (pg k 1).1
    have := h0.2.1; have := h1.2.1; omega
  by_cases e : op = 10
  · subst e; exact mn_le_mx
  by_cases e : op = 11
  · subst e
    obtain ⟨M, hM⟩ : ∃ M, M = mxI (mxI (pg k 0).1 (-(pg k 0).1)) (mxI (pg k 0).2 (-(pg k 0).2)) := ⟨_, rfl⟩
    have hp : 0 ≤ M := by rw [hM]; unfold mxI; (repeat' split) <;> omega
    show (if 0 ≤ (pg k 0).1 ∧ 0 ≤ (pg k 1).1 then ((0, mxI (mxI (pg k 0).1 (-(pg k 0).1)) (mxI (pg k 0).2 (-(pg k 0).2))) : Pr2) else (-mxI (mxI (pg k 0).1 (-(pg k 0).1)) (mxI (pg k 0).2 (-(pg k 0).2)), mxI (mxI (pg k 0).1 (-(pg k 0).1)) (mxI (pg k 0).2 (-(pg k 0).2)))).1 ≤ (if 0 ≤ (pg k 0).1 ∧ 0 ≤ (pg k 1).1 then ((0, mxI (mxI (pg k 0).1 (-(pg k 0).1)) (mxI (pg k 0).2 (-(pg k 0).2))) : Pr2) else (-mxI (mxI (pg k 0).1 (-(pg k 0).1)) (mxI (pg k 0).2 (-(pg k 0).2)), mxI (mxI (pg k 0).1 (-(pg k 0).1)) (mxI (pg k 0).2 (-(pg k 0).2)))).2
    rw [← hM]
    split
    · exact hp
    · show -M ≤ M; omega
  by_cases e : op = 12
  · subst e
    show (if (pg k 1).1 < 0 then mnI 0 ((pg k 1).1 + 1) else 0) ≤ if 0 < (pg k 1).2 then mxI 0 ((pg k 1).2 - 1) else 0
    unfold mnI mxI
    (repeat' split) <;> omega
  by_cases e : op = 21
  · subst e
    show mnI (pg k 0).1 (pg k 1).1 ≤ mnI (pg k 0).2 (pg k 1).2
    have := h0.2.1; have := h1.2.1
    unfold mnI; (repeat' split) <;> omega
  by_cases e : op = 22
  · subst e
    show mxI (pg k 0).1 (pg k 1).1 ≤ mxI (pg k 0).2 (pg k 1).2
    have := h0.2.1; have := h1.2.1
    unfold mxI; (repeat' split) <;> omega
  have hh := hul_le (k.drop 2) (pg k 1)
  by_cases e : op = 23
  · subst e
    show (hulL (pg k 1) (k.drop 2)).1 ≤ (hulL (pg k 1) (k.drop 2)).2
    have := h1.2.1; omega
  by_cases e : op = 25
  · subst e
    show (hulL (pg k 1) (k.drop 2)).1 ≤ (hulL (pg k 1) (k.drop 2)).2
    have := h1.2.1; omega
  rw [rul_e (by omega)]
  show (0 : Int) ≤ 1; omega
mutual
theorem rg_gd {vs : List Vr} {inp : Bool} (h : VarsOk vs) : ∀ t : Tm, fmd vs inp t → rgo vs t → gdR (rg vs t)
  | .mk op n k, hf, hr => by
    have hk := rgL_gd h k hf.2.2 hr.1
    have hle : (rul vs op n (rgL vs k)).1 ≤ (rul vs op n (rgL vs k)).2 := rul_le hk fun e => by
      by_cases q : 0 ≤ n ∧ n < vs.length
      · exact (h.ord _ (vr_in q.1 q.2)).1
      · exact absurd (.inl ⟨e, .inl (by omega)⟩) hf.2.1
    exact ⟨hr.2.1, hle, hr.2.2⟩
theorem rgL_gd {vs : List Vr} {inp : Bool} (h : VarsOk vs) : ∀ l : List Tm, fmdL vs inp l → rgoL vs l → ∀ j : Int, gdR (pg (rgL vs l) j)
  | [], _, _, j => by
    show gdR (([] : List Pr2).getD j.toNat (0, 0))
    simp [gdR]
  | t :: r, hf, hr, j => by
    have a := rg_gd h t hf.1 hr.1
    have b := rgL_gd h r hf.2 hr.2
    show gdR ((rg vs t :: rgL vs r).getD j.toNat (0, 0))
    cases e : j.toNat with
    | zero => exact a
    | succ m => exact b (m : Int)
end
theorem mul20 {a b : Int} (h1 : -1048576 ≤ a) (h2 : a ≤ 1048576) (h3 : -1048576 ≤ b) (h4 : b ≤ 1048576) : -1099511627776 ≤ a * b ∧ a * b ≤ 1099511627776 := by
  have h : (a * b).natAbs ≤ 1048576 * 1048576 := by
    rw [Int.natAbs_mul]
    exact Nat.mul_le_mul (by omega) (by omega)
  omega
theorem pg_map {k : List Pr2} {i : Int} (h0 : 0 ≤ i) (h1 : i < k.length) : gi (k.map Prod.fst) i = (pg k i).1 ∧ gi (k.map Prod.snd) i = (pg k i).2 := by
  have e : k[i.toNat]? = some (k[i.toNat]'(by omega)) := List.getElem?_eq_getElem (by omega)
  have e2 : pg k i = k[i.toNat]'(by omega) := by unfold pg; rw [List.getD_eq_getElem?_getD, e]; rfl
  rw [e2]
  constructor
  · unfold gi; rw [List.getD_eq_getElem?_getD, List.getElem?_map, e]; rfl
  · unfold gi; rw [List.getD_eq_getElem?_getD, List.getElem?_map, e]; rfl
theorem hul_take {k : List Pr2} {i : Int} (h0 : 2 ≤ i) (h1 : i < k.length) : hulL (pg k 1) ((k.take (i.toNat + 1)).drop 2) = (mnI (hulL (pg k 1) ((k.take i.toNat).drop 2)).1 (pg k i).1, mxI (hulL (pg k 1) ((k.take i.toNat).drop 2)).2 (pg k i).2) := by
  rw [take_snoc (d := ((0, 0) : Pr2)) (by omega) h1, List.drop_append_of_le_length (by rw [List.length_take]; omega)]
  unfold hulL
  rw [List.foldl_append]; rfl
theorem rgL_take {vs : List Vr} {l : List Tm} {i : Int} (h0 : 0 ≤ i) (h1 : i < l.length) : rgL vs (l.take (i.toNat + 1)) = rgL vs (l.take i.toNat) ++ [rg vs (tm l i)] := by
  rw [rgL_map, rgL_map, tm_take h0 h1, List.map_append]; rfl
open Classical in
/-- The code of a term. -/
noncomputable def ctC (vs : List Vr) (t : Tm) (inp : Bool) : Int := if ¬ fmd vs inp t then 1 else if ¬ rgo vs t then 3 else 0
theorem ctC_0 {vs : List Vr} {t : Tm} {inp : Bool} (h : ctC vs t inp = 0) : fmd vs inp t ∧ rgo vs t := by
  unfold ctC at h
  by_cases a : fmd vs inp t
  · rw [if_neg (fun q => q a)] at h
    by_cases b : rgo vs t
    · exact ⟨a, b⟩
    · rw [if_pos b] at h; omega
  · rw [if_pos a] at h; omega
end Go.Proofs.YtbchkopkgpfkgaaGreatDoor

namespace Go.Proofs.YtbchkopkgpfkgaaGreatDoor
open Go Go.Vc
open Classical
def rsg (l : List Int) : Prop := ¬ ((((l.length : Int) < 1) ∨ (32 : Int) < l.length) ∨ gi l 0 < 0) ∧ ∀ i : Int, 1 ≤ i → i < l.length → ¬ gi l i ≤ gi l (i - 1)
def pln (t : Tm) : Prop := (t.op = 0 ∧ t.n = 0) ∧ (t.kids.length : Int) = 0
def frP (s : St) : Prop := (s.thn.length : Int) = 0 ∧ (s.els.length : Int) = 0
def lcP (F : Fl) (s : St) : Prop := (0 ≤ s.var ∧ s.var < (F.vs.length : Int)) ∧ (vr F.vs s.var).kd = 0
def nbP (s : St) : Prop := (s.bds.length : Int) = 0
/-- The form of a step. -/
def shpP (F : Fl) (s : St) (last : Prop) : Prop :=
  if s.dk = 0 then ((frP s ∧ lcP F s) ∧ s.n = 0) ∧ nbP s
  else if s.dk = 1 then ((frP s ∧ s.var = 0) ∧ s.n = 0) ∧ nbP s
  else if s.dk = 2 then (((frP s ∧ s.var = 0) ∧ s.n = 0) ∧ nbP s) ∧ pln s.tm
  else if s.dk = 3 then (s.var = 0 ∧ s.n = 0) ∧ nbP s
  else if s.dk = 4 then (s.var = 0 ∧ (s.els.length : Int) = 0) ∧ nbP s
  else if s.dk = 5 then ((((frP s ∧ lcP F s) ∧ 0 ≤ s.n) ∧ s.n < (F.hs.length : Int)) ∧ nbP s) ∧ pln s.tm
  else if s.dk = 6 then ((((frP s ∧ last) ∧ s.var = 0) ∧ s.n = 0) ∧ pln s.tm) ∧ rsg s.bds
  else False
section
variable {F : Fl} {s : St} {last : Prop}
theorem shp_0 (h : s.dk = 0) : shpP F s last ↔ ((frP s ∧ lcP F s) ∧ s.n = 0) ∧ nbP s := by unfold shpP; rw [if_pos h]
theorem shp_1 (h : s.dk = 1) : shpP F s last ↔ ((frP s ∧ s.var = 0) ∧ s.n = 0) ∧ nbP s := by unfold shpP; rw [if_neg (by omega), if_pos h]
theorem shp_2 (h : s.dk = 2) : shpP F s last ↔ (((frP s ∧ s.var = 0) ∧ s.n = 0) ∧ nbP s) ∧ pln s.tm := by unfold shpP; rw [if_neg (by omega), if_neg (by omega), if_pos h]
theorem shp_3 (h : s.dk = 3) : shpP F s last ↔ (s.var = 0 ∧ s.n = 0) ∧ nbP s := by unfold shpP; rw [if_neg (by omega), if_neg (by omega), if_neg (by omega), if_pos h]
theorem shp_4 (h : s.dk = 4) : shpP F s last ↔ (s.var = 0 ∧ (s.els.length : Int) = 0) ∧ nbP s := by unfold shpP; rw [if_neg (by omega), if_neg (by omega), if_neg (by omega), if_neg (by omega), if_pos h]
theorem shp_5 (h : s.dk = 5) : shpP F s last ↔ ((((frP s ∧ lcP F s) ∧ 0 ≤ s.n) ∧ s.n < (F.hs.length : Int)) ∧ nbP s) ∧ pln s.tm := by unfold shpP; rw [if_neg (by omega), if_neg (by omega), if_neg (by omega), if_neg (by omega), if_neg (by omega), if_pos h]
theorem shp_6 (h : s.dk = 6) : shpP F s last ↔ ((((frP s ∧ last) ∧ s.var = 0) ∧ s.n = 0) ∧ pln s.tm) ∧ rsg s.bds := by unfold shpP; rw [if_neg (by omega), if_neg (by omega), if_neg (by omega), if_neg (by omega), if_neg (by omega), if_neg (by omega), if_pos h]
theorem shp_e (h : ¬ (s.dk = 0 ∨ s.dk = 1 ∨ s.dk = 2 ∨ s.dk = 3 ∨ s.dk = 4 ∨ s.dk = 5 ∨ s.dk = 6)) : ¬ shpP F s last := by unfold shpP; rw [if_neg (by omega), if_neg (by omega), if_neg (by omega), if_neg (by omega), if_neg (by omega), if_neg (by omega), if_neg (by omega)]; exact id
end
def limC (s : St) : Int := if s.dk = 2 then 67108864 else 10000
def nmBad (s : St) : Prop := ((s.cost < 0 ∨ limC s < s.cost) ∨ s.n < 0) ∨ (s.dk = 4 ∧ 4096 < s.n)
def bdBad (s : St) : Prop := 0 < (s.bds.length : Int) ∧ 67108864 < gi s.bds ((s.bds.length : Int) - 1)
noncomputable def csH (F : Fl) (last : Prop) (s : St) (x y : Int) : Int :=
  if ¬ shpP F s last then 1 else if nmBad s then 3 else if bdBad s then 3 else if ctC F.vs s.tm false ≠ 0 then ctC F.vs s.tm false else if x ≠ 0 then x else y
mutual
noncomputable def csS (F : Fl) (last : Prop) : St → Int
  | .mk dk c v n t a b bd => csH F last (.mk dk c v n t a b bd) (csL F False a) (csL F False b)
noncomputable def csL (F : Fl) (top : Prop) : List St → Int
  | [] => 0
  | s :: r => if csS F (top ∧ r = []) s ≠ 0 then csS F (top ∧ r = []) s else csL F top r
end
theorem csS_eq (F : Fl) (last : Prop) (s : St) : csS F last s = csH F last s (csL F False s.thn) (csL F False s.els) := by cases s; rfl
theorem csL_c {F : Fl} {top : Prop} {s : St} {r : List St} : csL F top (s :: r) = if csS F (top ∧ r = []) s ≠ 0 then csS F (top ∧ r = []) s else csL F top r := rfl
section
variable {F : Fl} {last top : Prop} {s : St} {x y : Int}
theorem cs_1 (h : ¬ shpP F s last) : csH F last s x y = 1 := if_pos h
theorem cs_3 (h : shpP F s last) (q : nmBad s ∨ bdBad s) : csH F last s x y = 3 := by
  unfold csH; rw [if_neg (fun z => z h)]
  by_cases a : nmBad s
  · rw [if_pos a]
  · rw [if_neg a, if_pos (q.resolve_left a)]
theorem cs_r (h : shpP F s last) (q : ¬ nmBad s) (q2 : ¬ bdBad s) : csH F last s x y = if ctC F.vs s.tm false ≠ 0 then ctC F.vs s.tm false else if x ≠ 0 then x else y := by
  unfold csH; rw [if_neg (fun z => z h), if_neg q, if_neg q2]
theorem cs_hit {l : List St} {i : Int} (i0 : 0 ≤ i) (i1 : i < l.length) (h : csL F top l = csL F top (l.drop i.toNat)) (q : csS F (top ∧ l.drop (i + 1).toNat = []) (st l i) ≠ 0) : csL F top l = csS F (top ∧ l.drop (i + 1).toNat = []) (st l i) := by
  rw [h, st_drop i0 i1, csL_c, if_pos q]
theorem cs_on {l : List St} {i : Int} (i0 : 0 ≤ i) (i1 : i < l.length) (h : csL F top l = csL F top (l.drop i.toNat)) (q : csS F (top ∧ l.drop (i + 1).toNat = []) (st l i) = 0) : csL F top l = csL F top (l.drop (i + 1).toNat) := by
  rw [h, st_drop i0 i1, csL_c, if_neg (fun z => z q)]
end
theorem drop_last {l : List St} {i : Int} (i0 : 0 ≤ i) (i1 : i < l.length) : (l.drop (i + 1).toNat = []) ↔ i = (l.length : Int) - 1 := by
  rw [List.drop_eq_nil_iff]; omega
/-- A valid step; a valid list of steps. -/
structure StOk1 (F : Fl) (last : Prop) (s : St) : Prop where
  shp : shpP F s last
  nm : ¬ nmBad s
  bd : ¬ bdBad s
  ct : fmd F.vs false s.tm ∧ rgo F.vs s.tm
mutual
def StOk (F : Fl) (last : Prop) : St → Prop
  | .mk dk c v n t a b bd => StOk1 F last (.mk dk c v n t a b bd) ∧ StsOk F False a ∧ StsOk F False b
def StsOk (F : Fl) (top : Prop) : List St → Prop
  | [] => True
  | s :: r => StOk F (top ∧ r = []) s ∧ StsOk F top r
end
theorem StOk_eq {F : Fl} {last : Prop} {s : St} : StOk F last s ↔ StOk1 F last s ∧ StsOk F False s.thn ∧ StsOk F False s.els := by cases s; exact Iff.rfl
mutual
theorem csS_0 {F : Fl} {last : Prop} : ∀ {s : St}, csS F last s = 0 → StOk F last s
  | .mk dk c v n t a b bd, h => by
    have h : csH F last (.mk dk c v n t a b bd) (csL F False a) (csL F False b) = 0 := h
    by_cases h1 : shpP F (.mk dk c v n t a b bd) last
    · by_cases h2 : nmBad (.mk dk c v n t a b bd)
      · rw [cs_3 h1 (.inl h2)] at h; omega
      · by_cases h3 : bdBad (.mk dk c v n t a b bd)
        · rw [cs_3 h1 (.inr h3)] at h; omega
        · rw [cs_r h1 h2 h3] at h
          by_cases h4 : ctC F.vs (St.mk dk c v n t a b bd).tm false = 0
          · rw [if_neg (fun z => z h4)] at h
            by_cases h5 : csL F False a = 0
            · rw [if_neg (fun z => z h5)] at h
              exact ⟨⟨h1, h2, h3, ctC_0 h4⟩, csL_0 h5, csL_0 h⟩
            · rw [if_pos h5] at h; exact absurd h h5
          · rw [if_pos h4] at h; exact absurd h h4
    · rw [cs_1 h1] at h; omega
theorem csL_0 {F : Fl} {top : Prop} : ∀ {l : List St}, csL F top l = 0 → StsOk F top l
  | [], _ => trivial
  | s :: r, h => by
    rw [csL_c] at h
    by_cases q : csS F (top ∧ r = []) s = 0
    · rw [if_neg (fun z => z q)] at h
      exact ⟨csS_0 q, csL_0 h⟩
    · rw [if_pos q] at h; exact absurd h q
end
theorem StsOk_at {F : Fl} {top : Prop} : ∀ {l : List St} {i : Int}, StsOk F top l → 0 ≤ i → i < l.length → StOk F (top ∧ i = (l.length : Int) - 1) (st l i)
  | [], i, _, a, b => absurd b (by simp; omega)
  | s :: r, i, h, a, b => by
    have hl : (((s :: r).length : Nat) : Int) = r.length + 1 := by simp
    by_cases e : i = 0
    · subst e
      have h1 := h.1
      have e2 : (top ∧ r = []) = (top ∧ (0 : Int) = ((s :: r).length : Nat) - 1) := by
        rw [hl]
        apply propext
        constructor
        · rintro ⟨p, q⟩; subst q; exact ⟨p, by simp⟩
        · rintro ⟨p, q⟩; exact ⟨p, List.eq_nil_of_length_eq_zero (by omega)⟩
      rw [e2] at h1; exact h1
    · have := StsOk_at h.2 (i := i - 1) (by omega) (by omega)
      have e3 : st (s :: r) i = st r (i - 1) := by
        unfold st; rw [show i.toNat = (i - 1).toNat + 1 by omega]; rfl
      rw [e3, hl]
      rwa [show (i - 1 = (r.length : Int) - 1) = (i = (r.length : Int) + 1 - 1) from propext ⟨fun q => by omega, fun q => by omega⟩] at this
mutual
theorem StOk.nn {F : Fl} {last : Prop} : ∀ {s : St}, StOk F last s → s.nn
  | .mk dk c v n t a b bd, h => by
    have h1 : ¬ nmBad (.mk dk c v n t a b bd) := h.1.nm
    unfold nmBad at h1
    refine ⟨?_, ?_, StsOk.nns h.2.1, StsOk.nns h.2.2⟩
    · exact Classical.byContradiction fun q => h1 (.inl (.inl (.inl (by show c < 0; omega))))
    · exact Classical.byContradiction fun q => h1 (.inl (.inr (by show n < 0; omega)))
theorem StsOk.nns {F : Fl} {top : Prop} : ∀ {l : List St}, StsOk F top l → nns l
  | [], _ => trivial
  | s :: r, h => ⟨StOk.nn h.1, StsOk.nns h.2⟩
end
theorem cap_add {X Y y L : Int} (hX : 0 ≤ X) (hY : 0 ≤ Y) (hy : 0 ≤ y) (hL : 0 ≤ L) (h : mnI y L = mnI Y L) : mnI (mnI X L + y) L = mnI (X + Y) L := by
  unfold mnI at *
  by_cases a : X < L
  · rw [if_pos a]
    by_cases b : y < L
    · rw [if_pos b] at h
      by_cases c : Y < L
      · rw [if_pos c] at h; rw [h]
      · rw [if_neg c] at h; omega
    · rw [if_neg b] at h
      by_cases c : Y < L
      · rw [if_pos c] at h; omega
      · rw [if_neg (by omega), if_neg (by omega)]
  · rw [if_neg a]
    rw [if_neg (by omega : ¬ X + Y < L)]
    split <;> omega
theorem cap_mul {n x U L : Int} (hn : 0 ≤ n) (hx : 0 ≤ x) (hU : 0 ≤ U) (hL : 0 ≤ L) : mnI (n * (x + mnI U L)) L = mnI (n * (x + U)) L := by
  by_cases a : U < L
  · rw [show mnI U L = U from if_pos a]
  · rw [show mnI U L = L from if_neg a]
    by_cases z : n = 0
    · subst z; simp
    · have h1 : x + L ≤ n * (x + L) := by
        have := Int.mul_le_mul_of_nonneg_right (show 1 ≤ n by omega) (show 0 ≤ x + L by omega)
        omega
      have h2 : x + U ≤ n * (x + U) := by
        have := Int.mul_le_mul_of_nonneg_right (show 1 ≤ n by omega) (show 0 ≤ x + U by omega)
        omega
      unfold mnI
      rw [if_neg (by omega), if_neg (by omega)]
theorem cap_max {x U W L : Int} (hx : 0 ≤ x) (hU : 0 ≤ U) (hW : 0 ≤ W) (hL : 0 ≤ L) : mnI (x + mxI (mnI U L) (mnI W L)) L = mnI (x + mxI U W) L := by
  unfold mnI mxI
  (repeat' split) <;> omega
theorem mulb {a b A B : Int} (a0 : 0 ≤ a) (aA : a ≤ A) (b0 : 0 ≤ b) (bB : b ≤ B) : 0 ≤ a * b ∧ a * b ≤ A * B := ⟨Int.mul_nonneg a0 b0, Int.mul_le_mul aA bB b0 (by omega)⟩
theorem ubS_take {l : List St} {i : Int} (h0 : 0 ≤ i) (h1 : i < l.length) : ubS (l.take (i.toNat + 1)) = ubS (l.take i.toNat) + (st l i).uS := add_take (f := St.uS) rfl (fun _ _ => rfl) h0 h1
theorem ubO_take {l : List St} {i : Int} (h0 : 0 ≤ i) (h1 : i < l.length) : ubO (l.take (i.toNat + 1)) = ubO (l.take i.toNat) + (st l i).uO := add_take (f := St.uO) rfl (fun _ _ => rfl) h0 h1
theorem ubT_take {l : List St} {i : Int} (h0 : 0 ≤ i) (h1 : i < l.length) : ubT (l.take (i.toNat + 1)) = ubT (l.take i.toNat) + (st l i).uT := add_take (f := St.uT) rfl (fun _ _ => rfl) h0 h1
theorem nns_take {l : List St} (h : nns l) (n : Nat) : nns (l.take n) := nns_iff.2 fun i a b => by
  have hl := List.length_take_le' n l
  have := nns_iff.1 h i a (by omega)
  rw [show st (l.take n) i = st l i from ?_]
  · exact this
  · rw [List.length_take] at b
    unfold st
    rw [List.getD_eq_getElem?_getD, List.getD_eq_getElem?_getD, List.getElem?_take, if_pos (by omega)]
/-- The code of the hatches. -/
noncomputable def htE (F : Fl) (i : Int) : Int :=
  if ¬ NameOk (ht F.hs i).nm then 7 else if ∃ j : Int, 0 ≤ j ∧ j < i ∧ (ht F.hs j).nm = (ht F.hs i).nm then 8 else if ¬ bndP (ht F.hs i).lo (ht F.hs i).hi then 3 else ctC F.vs (ht F.hs i).tm true
section
variable {F : Fl} {i : Int}
theorem ht_7 (h : ¬ NameOk (ht F.hs i).nm) : htE F i = 7 := if_pos h
theorem ht_8 (h : NameOk (ht F.hs i).nm) {j : Int} (j0 : 0 ≤ j) (j1 : j < i) (e : (ht F.hs j).nm = (ht F.hs i).nm) : htE F i = 8 := by unfold htE; rw [if_neg (fun q => q h), if_pos ⟨j, j0, j1, e⟩]
theorem ht_3 (h : NameOk (ht F.hs i).nm) (h2 : ∀ j : Int, 0 ≤ j → j < i → ¬ (ht F.hs j).nm = (ht F.hs i).nm) (h3 : ¬ bndP (ht F.hs i).lo (ht F.hs i).hi) : htE F i = 3 := by
  unfold htE; rw [if_neg (fun q => q h), if_neg (fun ⟨j, a, b, c⟩ => h2 j a b c), if_pos h3]
theorem ht_r (h : NameOk (ht F.hs i).nm) (h2 : ∀ j : Int, 0 ≤ j → j < i → ¬ (ht F.hs j).nm = (ht F.hs i).nm) (h3 : bndP (ht F.hs i).lo (ht F.hs i).hi) : htE F i = ctC F.vs (ht F.hs i).tm true := by
  unfold htE; rw [if_neg (fun q => q h), if_neg (fun ⟨j, a, b, c⟩ => h2 j a b c), if_neg (fun q => q h3)]
structure HtOk (F : Fl) (i : Int) : Prop where
  nm : NameOk (ht F.hs i).nm
  du : ∀ j : Int, 0 ≤ j → j < i → ¬ (ht F.hs j).nm = (ht F.hs i).nm
  bd : bndP (ht F.hs i).lo (ht F.hs i).hi
  ct : fmd F.vs true (ht F.hs i).tm ∧ rgo F.vs (ht F.hs i).tm
theorem htE_0 (h : htE F i = 0) : HtOk F i := by
  by_cases a : NameOk (ht F.hs i).nm
  · by_cases b : ∃ j : Int, 0 ≤ j ∧ j < i ∧ (ht F.hs j).nm = (ht F.hs i).nm
    · obtain ⟨j, b1, b2, b3⟩ := b; rw [ht_8 a b1 b2 b3] at h; omega
    · have b' : ∀ j : Int, 0 ≤ j → j < i → ¬ (ht F.hs j).nm = (ht F.hs i).nm := fun j x y z => b ⟨j, x, y, z⟩
      by_cases c : bndP (ht F.hs i).lo (ht F.hs i).hi
      · rw [ht_r a b' c] at h; exact ⟨a, b', c, ctC_0 h⟩
      · rw [ht_3 a b' c] at h; omega
  · rw [ht_7 a] at h; omega
end
noncomputable def chkR (F : Fl) : Int :=
  if ¬ SzOk F then 4 else if cvC F.vs ≠ 0 then cvC F.vs else if fnz (htE F) F.hs.length ≠ 0 then fnz (htE F) F.hs.length else if csL F True F.bd ≠ 0 then csL F True F.bd
  else if (4096 < mnI (ubS F.bd) 4097 ∨ 8 < mnI (ubO F.bd) 9) ∨ 67108864 < mnI (ubT F.bd) 67108865 then 4 else 0
/-- A valid program. -/
structure Valid (F : Fl) : Prop where
  sz : SzOk F
  vs : VarsOk F.vs
  hs : ∀ i : Int, 0 ≤ i → i < F.hs.length → HtOk F i
  bd : StsOk F True F.bd
  uS : ubS F.bd ≤ 4096
  uO : ubO F.bd ≤ 8
  uT : ubT F.bd ≤ 67108864
theorem chkR_0 {F : Fl} (h : chkR F = 0) : Valid F := by
  unfold chkR at h
  by_cases a : SzOk F
  · rw [if_neg (fun z => z a)] at h
    by_cases b : cvC F.vs = 0
    · rw [if_neg (fun z => z b)] at h
      by_cases c : fnz (htE F) F.hs.length = 0
      · rw [if_neg (fun z => z c)] at h
        by_cases d : csL F True F.bd = 0
        · rw [if_neg (fun z => z d)] at h
          by_cases e : (4096 < mnI (ubS F.bd) 4097 ∨ 8 < mnI (ubO F.bd) 9) ∨ 67108864 < mnI (ubT F.bd) 67108865
          · rw [if_pos e] at h; omega
          · refine ⟨a, cvC_0 b, fun i x y => htE_0 (fnz_0 c i x y), csL_0 d, ?_, ?_, ?_⟩ <;> (unfold mnI at e; split at e <;> omega)
        · rw [if_pos d] at h; exact absurd h d
      · rw [if_pos c] at h; exact absurd h c
    · rw [if_pos b] at h; exact absurd h b
  · rw [if_pos a] at h; omega
end Go.Proofs.YtbchkopkgpfkgaaGreatDoor

namespace Go.Proofs.YtbchkopkgpfkgaaGreatDoor
open Go Go.Vc
open Classical
theorem mn_bd {U L : Int} (h : 0 ≤ U) (hL : 0 ≤ L) : 0 ≤ mnI U L ∧ mnI U L ≤ L := by unfold mnI; split <;> omega
theorem mx_bd {a b L : Int} (h : 0 ≤ a ∧ a ≤ L) (h2 : 0 ≤ b ∧ b ≤ L) : 0 ≤ mxI a b ∧ mxI a b ≤ L := by unfold mxI; split <;> omega
theorem StOk.num {F : Fl} {last : Prop} {s : St} (h : StOk F last s) : (0 ≤ s.cost ∧ s.cost ≤ 67108864) ∧ 0 ≤ s.n ∧ (s.dk = 4 → s.n ≤ 4096) := by
  have h1 := (StOk_eq.1 h).1.nm
  unfold nmBad limC at h1
  have h2 : ¬ s.cost < 0 := fun q => h1 (.inl (.inl (.inl q)))
  have h3 : ¬ (if s.dk = 2 then 67108864 else 10000) < s.cost := fun q => h1 (.inl (.inl (.inr q)))
  have h4 : ¬ s.n < 0 := fun q => h1 (.inl (.inr q))
  refine ⟨⟨by omega, ?_⟩, by omega, fun e => ?_⟩
  · split at h3 <;> omega
  · exact Classical.byContradiction fun q => h1 (.inr ⟨e, by omega⟩)
section
variable {s : St} {X : Int}
theorem bS4 (h : s.nn) (hX : 0 ≤ X) (e : s.dk = 4) : mnI (mnI X 4097 + (1 + s.n * (1 + mnI (ubS s.thn) 4097))) 4097 = mnI (X + s.uS) 4097 := by
  obtain ⟨_, h2, h3, _⟩ := (nn_eq s).1 h
  have u := (ubs_nn _ h3).1
  have m := mn_bd (U := ubS s.thn) (L := 4097) u (by omega)
  have p := Int.mul_nonneg h2 (show 0 ≤ 1 + ubS s.thn by omega)
  have p' := Int.mul_nonneg h2 (show 0 ≤ 1 + mnI (ubS s.thn) 4097 by omega)
  rw [uS_eq, if_pos e]
  apply cap_add hX (by omega) (by omega) (by omega)
  have c := cap_mul (n := s.n) (x := 1) (U := ubS s.thn) (L := 4097) h2 (by omega) u (by omega)
  have := cap_add (X := 1) (Y := s.n * (1 + ubS s.thn)) (y := s.n * (1 + mnI (ubS s.thn) 4097)) (L := 4097) (by omega) p p' (by omega) c
  exact this
theorem bS0 (h : s.nn) (hX : 0 ≤ X) (e : ¬ s.dk = 4) : mnI (mnI X 4097 + (1 + mxI (mnI (ubS s.thn) 4097) (mnI (ubS s.els) 4097))) 4097 = mnI (X + s.uS) 4097 := by
  obtain ⟨_, h2, h3, h4⟩ := (nn_eq s).1 h
  have u := (ubs_nn _ h3).1
  have w := (ubs_nn _ h4).1
  have m := mx_bd (mn_bd (U := ubS s.thn) (L := 4097) u (by omega)) (mn_bd (U := ubS s.els) (L := 4097) w (by omega))
  have m2 : 0 ≤ mxI (ubS s.thn) (ubS s.els) := by unfold mxI; split <;> omega
  rw [uS_eq, if_neg e]
  exact cap_add hX (by omega) (by omega) (by omega) (cap_max (x := 1) (by omega) u w (by omega))
theorem bO4 (h : s.nn) (hX : 0 ≤ X) (e : s.dk = 4) : mnI (mnI X 9 + s.n * mnI (ubO s.thn) 9) 9 = mnI (X + s.uO) 9 := by
  obtain ⟨_, h2, h3, _⟩ := (nn_eq s).1 h
  have u := (ubs_nn _ h3).2.1
  have m := mn_bd (U := ubO s.thn) (L := 9) u (by omega)
  have p := Int.mul_nonneg h2 u
  have p' := Int.mul_nonneg h2 m.1
  rw [uO_eq, if_neg (by omega), if_pos e]
  have c := cap_mul (n := s.n) (x := 0) (U := ubO s.thn) (L := 9) h2 (by omega) u (by omega)
  rw [Int.zero_add, Int.zero_add] at c
  exact cap_add hX p p' (by omega) c
theorem bO1 (hX : 0 ≤ X) (e : s.dk = 1) : mnI (mnI X 9 + 1) 9 = mnI (X + s.uO) 9 := by
  rw [uO_eq, if_pos e]
  exact cap_add hX (by omega) (by omega) (by omega) rfl
theorem bO0 (h : s.nn) (hX : 0 ≤ X) (e : ¬ s.dk = 4) (e1 : ¬ s.dk = 1) : mnI (mnI X 9 + mxI (mnI (ubO s.thn) 9) (mnI (ubO s.els) 9)) 9 = mnI (X + s.uO) 9 := by
  obtain ⟨_, h2, h3, h4⟩ := (nn_eq s).1 h
  have u := (ubs_nn _ h3).2.1
  have w := (ubs_nn _ h4).2.1
  have m := mx_bd (mn_bd (U := ubO s.thn) (L := 9) u (by omega)) (mn_bd (U := ubO s.els) (L := 9) w (by omega))
  have m2 : 0 ≤ mxI (ubO s.thn) (ubO s.els) := by unfold mxI; split <;> omega
  rw [uO_eq, if_neg e1, if_neg e]
  have c := cap_max (x := 0) (U := ubO s.thn) (W := ubO s.els) (L := 9) (by omega) u w (by omega)
  rw [Int.zero_add, Int.zero_add] at c
  exact cap_add hX (by omega) (by omega) (by omega) c
theorem bT4 (h : s.nn) (hX : 0 ≤ X) (e : s.dk = 4) : mnI (mnI X 67108865 + s.n * (s.cost + mnI (ubT s.thn) 67108865)) 67108865 = mnI (X + s.uT) 67108865 := by
  obtain ⟨h1, h2, h3, _⟩ := (nn_eq s).1 h
  have u := (ubs_nn _ h3).2.2
  have m := mn_bd (U := ubT s.thn) (L := 67108865) u (by omega)
  have p := Int.mul_nonneg h2 (show 0 ≤ s.cost + ubT s.thn by omega)
  have p' := Int.mul_nonneg h2 (show 0 ≤ s.cost + mnI (ubT s.thn) 67108865 by omega)
  rw [uT_eq, if_pos e]
  exact cap_add hX p p' (by omega) (cap_mul h2 h1 u (by omega))
theorem bT0 (h : s.nn) (hX : 0 ≤ X) (e : ¬ s.dk = 4) : mnI (mnI X 67108865 + (s.cost + mxI (mnI (ubT s.thn) 67108865) (mnI (ubT s.els) 67108865))) 67108865 = mnI (X + s.uT) 67108865 := by
  obtain ⟨h1, h2, h3, h4⟩ := (nn_eq s).1 h
  have u := (ubs_nn _ h3).2.2
  have w := (ubs_nn _ h4).2.2
  have m := mx_bd (mn_bd (U := ubT s.thn) (L := 67108865) u (by omega)) (mn_bd (U := ubT s.els) (L := 67108865) w (by omega))
  have m2 : 0 ≤ mxI (ubT s.thn) (ubT s.els) := by unfold mxI; split <;> omega
  rw [uT_eq, if_neg e]
  exact cap_add hX (by omega) (by omega) (by omega) (cap_max h1 u w (by omega))
end
section
variable {F : Fl} {top : Prop} {l : List St} {i : Int}
theorem cs_hit2 (i0 : 0 ≤ i) (i1 : i < l.length) (h : csL F top l = csL F top (l.drop i.toNat)) {c : Int} (e : csH F (top ∧ i = (l.length : Int) - 1) (st l i) (csL F False (st l i).thn) (csL F False (st l i).els) = c) (q : c ≠ 0) : c = csL F top l := by
  have d : (top ∧ l.drop (i + 1).toNat = []) = (top ∧ i = (l.length : Int) - 1) := by rw [drop_last i0 i1]
  rw [cs_hit i0 i1 h (by rw [csS_eq, d, e]; exact q), csS_eq, d, e]
theorem cs_on2 (i0 : 0 ≤ i) (i1 : i < l.length) (h : csL F top l = csL F top (l.drop i.toNat)) (e : csH F (top ∧ i = (l.length : Int) - 1) (st l i) (csL F False (st l i).thn) (csL F False (st l i).els) = 0) : csL F top l = csL F top (l.drop (i + 1).toNat) := by
  have d : (top ∧ l.drop (i + 1).toNat = []) = (top ∧ i = (l.length : Int) - 1) := by rw [drop_last i0 i1]
  exact cs_on i0 i1 h (by rw [csS_eq, d, e])
end
end Go.Proofs.YtbchkopkgpfkgaaGreatDoor

namespace Go.Vc
open Go
theorem FnC.drop {P : Program} {f : FuncId} {args : List Value} {V0 : HV} {σ0 : Res} {Φ : Value → HV → Res → Prop} (h : FnC P f args V0 σ0 (fun v V' σ' => ∃ σ1 τ, σ'.Perm (σ1 ++ τ) ∧ Φ v V' σ1)) : FnC P f args V0 σ0 Φ :=
  ⟨h.ok, fun w0 hs0 h1 h2 h3 h4 => (h.run w0 hs0 h1 h2 h3 h4).mono fun _ _ ⟨v, V', σ', h5, ⟨σ1, τ, hp, hΦ⟩, h7⟩ => ⟨v, V', σ1, h5, hΦ, h7.drop hp⟩⟩
theorem vc_to_gr {P : Program} {C : Cx} {N : Nat} {K : K3} {Q : Ex → K3} {env : Env} {V : HV} {σ : Res} {c : Code} {k E : Nat} {b n cap : Nat} {cs : Array Value} (s : Nat) (xs : List Value) (hk : σ[k]? = some (Blk b (.cells cs E (0, 0)))) (hx : xs.length = n * s) (hn : n ≤ cap) (hm' : cap ≤ maxLen) (hc : cs.size = cap * s)
    (ht : cs.toList.take (n * s) = xs) (h : VC P C N c K Q env V (σ.set k (Gr E s (.slice (some ⟨b, 0, none⟩) n cap) n xs))) : VC P C N c K Q env V σ := fun a w hf hm => h a w hf (hm.to_gr hk hx hn hm' hc ht)
theorem perm_keep {σ : Res} (n : Nat) : σ.Perm (σ.take n ++ σ.drop n) := by rw [List.take_append_drop]
end Go.Vc
namespace Go.Proofs.YtbchkopkgpfkgaaGreatDoor
open Go Go.Vc
def vrk (v : Vr) : List Value := [.string v.nm, .int .i64 v.kd, .int .i64 v.lo, .int .i64 v.hi, .int .i64 v.ini]
theorem vrcs_snoc (l : List Vr) (v : Vr) : vrcs (l ++ [v]) = vrcs l ++ vrk v := by
  unfold vrcs
  rw [List.length_append, List.length_singleton, List.range_succ, List.flatMap_append]
  congr 1
  · have : ∀ i ∈ List.range l.length, vrc (l ++ [v]) i = vrc l i := fun i hi => by
      have := List.mem_range.1 hi
      unfold vrc vr
      simp only [List.getD_eq_getElem?_getD]
      rw [List.getElem?_append_left (by omega)]
    rw [List.flatMap_def, List.flatMap_def, List.map_congr_left this]
  · simp [vrc, vrk, vr]
def vfl (vs : List Vr) (k : Int) : List Vr := vs.filter fun v => decide (v.kd = k)
theorem vr_take {l : List Vr} {i : Int} (h0 : 0 ≤ i) (h1 : i < l.length) : l.take (i.toNat + 1) = l.take i.toNat ++ [vr l i] := by
  rw [List.take_add_one, List.getElem?_eq_getElem (by omega)]
  show _ = _ ++ [l.getD i.toNat vr0]
  rw [List.getD_eq_getElem?_getD, List.getElem?_eq_getElem (by omega)]; rfl
section
variable {vs : List Vr} {k i : Int}
theorem vfl_y (h0 : 0 ≤ i) (h1 : i < vs.length) (h : (vr vs i).kd = k) : vfl (vs.take (i + 1).toNat) k = vfl (vs.take i.toNat) k ++ [vr vs i] := by
  rw [show (i + 1).toNat = i.toNat + 1 by omega, vr_take h0 h1]; unfold vfl; rw [List.filter_append]; simp; rw [← List.getD_eq_getElem?_getD]; exact h
theorem vfl_n (h0 : 0 ≤ i) (h1 : i < vs.length) (h : ¬ (vr vs i).kd = k) : vfl (vs.take (i + 1).toNat) k = vfl (vs.take i.toNat) k := by
  rw [show (i + 1).toNat = i.toNat + 1 by omega, vr_take h0 h1]; unfold vfl; rw [List.filter_append]; simp; rw [← List.getD_eq_getElem?_getD]; exact h
theorem vfl_le : (vfl vs k).length ≤ vs.length := List.length_filter_le ..
theorem vfl_lt : (vfl (vs.take i.toNat) k).length ≤ i.toNat := Nat.le_trans vfl_le (by rw [List.length_take]; omega)
end
/-- The product of the widths. -/
def prd : List Vr → Int
  | [] => 1
  | v :: r => (v.hi - v.lo + 1) * prd r
theorem prd_snoc (v : Vr) : ∀ l : List Vr, prd (l ++ [v]) = prd l * (v.hi - v.lo + 1)
  | [] => by show (v.hi - v.lo + 1) * 1 = 1 * (v.hi - v.lo + 1); rw [Int.mul_one, Int.one_mul]
  | w :: r => by show (w.hi - w.lo + 1) * prd (r ++ [v]) = (w.hi - w.lo + 1) * prd r * (v.hi - v.lo + 1); rw [prd_snoc v r, Int.mul_assoc]
theorem prd_take {l : List Vr} {i : Int} (h0 : 0 ≤ i) (h1 : i < l.length) : prd (l.take (i + 1).toNat) = prd (l.take i.toNat) * ((vr l i).hi - (vr l i).lo + 1) := by
  rw [show (i + 1).toNat = i.toNat + 1 by omega, vr_take h0 h1, prd_snoc]
theorem spc_prd : ∀ (vs : List Vr) (k : Int), spc vs k = prd (vfl vs k)
  | [], _ => rfl
  | v :: r, k => by
    unfold spc vfl
    by_cases h : v.kd = k
    · rw [if_pos h, List.filter_cons_of_pos (by simpa using h), spc_prd r k]; rfl
    · rw [if_neg h, List.filter_cons_of_neg (by simpa using h), spc_prd r k]; rfl
theorem prd_pos : ∀ {l : List Vr}, (∀ v ∈ l, v.lo ≤ v.hi) → 1 ≤ prd l
  | [], _ => Int.le_refl _
  | v :: r, h => by
    have a := prd_pos (l := r) fun w q => h w (List.mem_cons_of_mem _ q)
    have b := h v (List.mem_cons_self ..)
    have := Int.mul_le_mul (show (1 : Int) ≤ v.hi - v.lo + 1 by omega) a (by omega) (by omega)
    unfold prd; omega
theorem prd_app (a b : List Vr) : prd (a ++ b) = prd a * prd b := by
  induction a with
  | nil => show prd b = 1 * prd b; rw [Int.one_mul]
  | cons v r ih => show (v.hi - v.lo + 1) * prd (r ++ b) = (v.hi - v.lo + 1) * prd r * prd b; rw [ih, Int.mul_assoc]
theorem prd_le {l : List Vr} (h : ∀ v ∈ l, v.lo ≤ v.hi) (n : Nat) : 1 ≤ prd (l.take n) ∧ prd (l.take n) ≤ prd l := by
  have a := prd_pos (l := l.take n) fun w q => h w (List.mem_of_mem_take q)
  have b := prd_pos (l := l.drop n) fun w q => h w (List.mem_of_mem_drop q)
  have e := prd_app (l.take n) (l.drop n)
  rw [List.take_append_drop] at e
  have := Int.mul_le_mul_of_nonneg_left b (show 0 ≤ prd (l.take n) by omega)
  omega
theorem vfl_mem {vs : List Vr} {k : Int} {v : Vr} (h : v ∈ vfl vs k) : v ∈ vs := (List.mem_filter.1 h).1
theorem VarsOk.fl {vs : List Vr} (h : VarsOk vs) (k : Int) : ∀ v ∈ vfl vs k, v.lo ≤ v.hi ∧ -1048576 ≤ v.lo ∧ v.hi ≤ 1048576 := fun v q => h.ord v (vfl_mem q)
/-- A vector in its range; its number. -/
def inR (vs : List Vr) (xs : List Int) : Prop := ∀ i : Int, 0 ≤ i → i < vs.length → (vr vs i).lo ≤ gi xs i ∧ gi xs i ≤ (vr vs i).hi
def rkN (L : List Vr) (xs : List Int) : Nat → Int
  | 0 => 0
  | n + 1 => rkN L xs n * ((vr L n).hi - (vr L n).lo + 1) + gi xs n - (vr L n).lo
theorem rkN_s {L : List Vr} {xs : List Int} {i : Int} (h0 : 0 ≤ i) : rkN L xs (i + 1).toNat = rkN L xs i.toNat * ((vr L i).hi - (vr L i).lo + 1) + gi xs i - (vr L i).lo := by
  rw [show (i + 1).toNat = i.toNat + 1 by omega, rkN, show ((i.toNat : Nat) : Int) = i by omega]
theorem rkN_bd {L : List Vr} {xs : List Int} {i : Int} (h0 : 0 ≤ i) (h1 : i ≤ L.length) (h : ∀ x : Int, 0 ≤ x → x < i → (vr L x).lo ≤ gi xs x ∧ gi xs x ≤ (vr L x).hi) : 0 ≤ rkN L xs i.toNat ∧ rkN L xs i.toNat < prd (L.take i.toNat) := by
  induction hn : i.toNat generalizing i with
  | zero => exact ⟨Int.le_refl _, by show (0 : Int) < 1; omega⟩
  | succ n ih =>
    have hi : i - 1 = n := by omega
    have a := ih (i := i - 1) (by omega) (by omega) (fun x p q => h x p (by omega)) (by omega)
    have b := h (i - 1) (by omega) (by omega)
    have p := prd_take (l := L) (i := i - 1) (by omega) (by omega)
    rw [show (i - 1 + 1).toNat = n + 1 by omega, show (i - 1).toNat = n by omega] at p
    rw [p, rkN, ← hi]
    obtain ⟨b1, b2⟩ := b
    obtain ⟨a1, a2⟩ := a
    have m1 := Int.mul_nonneg a1 (show 0 ≤ (vr L (i - 1)).hi - (vr L (i - 1)).lo + 1 by omega)
    have m2 := Int.mul_le_mul_of_nonneg_right (show rkN L xs n + 1 ≤ prd (L.take n) by omega) (show 0 ≤ (vr L (i - 1)).hi - (vr L (i - 1)).lo + 1 by omega)
    rw [Int.add_mul, Int.one_mul] at m2
    omega
open Classical in
noncomputable def rkE (L : List Vr) (xs : List Int) : Int := if L.length ≠ xs.length then 2 else if inR L xs then 0 else 3
open Classical in
noncomputable def rkV (L : List Vr) (xs : List Int) : Int := if rkE L xs = 0 then rkN L xs L.length else 0
theorem rk_2 {L : List Vr} {xs : List Int} (h : ¬ (L.length : Int) = xs.length) : rkE L xs = 2 ∧ rkV L xs = 0 := by
  have e : rkE L xs = 2 := if_pos (by omega)
  exact ⟨e, by unfold rkV; rw [if_neg (by omega)]⟩
theorem rk_3 {L : List Vr} {xs : List Int} {i : Int} (h : (L.length : Int) = xs.length) (i0 : 0 ≤ i) (i1 : i < L.length) (hb : gi xs i < (vr L i).lo ∨ (vr L i).hi < gi xs i) : rkE L xs = 3 ∧ rkV L xs = 0 := by
  have e : rkE L xs = 3 := by unfold rkE; rw [if_neg (by omega), if_neg (fun q => by have := q i i0 i1; omega)]
  exact ⟨e, by unfold rkV; rw [if_neg (by omega)]⟩
theorem rk_0 {L : List Vr} {xs : List Int} (h : (L.length : Int) = xs.length) (hb : inR L xs) : rkE L xs = 0 ∧ rkV L xs = rkN L xs L.length := by
  have e : rkE L xs = 0 := by unfold rkE; rw [if_neg (by omega), if_pos hb]
  exact ⟨e, by unfold rkV; rw [if_pos e]⟩
/-- What the laws ask of a program. -/
def FitP (F : Fl) (a b c : Int) : Prop := FewP F 10 80 ∧ chkR F = 0 ∧ spc F.vs 1 ≤ a ∧ spc F.vs 2 ≤ b ∧ spc F.vs 3 ≤ c ∧ ubS F.bd ≤ 400
theorem fit_iff {F : Fl} {a b c : Int} (h1 : FewP F 10 80) (h2 : chkR F = 0) : (((spc F.vs 1 ≤ a ∧ spc F.vs 2 ≤ b) ∧ spc F.vs 3 ≤ c) ∧ mnI (ubS F.bd) 4097 ≤ 400) ↔ FitP F a b c := by
  have : mnI (ubS F.bd) 4097 ≤ 400 ↔ ubS F.bd ≤ 400 := by unfold mnI; split <;> omega
  rw [this]
  exact ⟨fun ⟨⟨⟨x, y⟩, z⟩, w⟩ => ⟨h1, h2, x, y, z, w⟩, fun ⟨_, _, x, y, z, w⟩ => ⟨⟨⟨x, y⟩, z⟩, w⟩⟩
theorem few_le {F : Fl} (h : FewP F 10 80) : nds F.bd + hsz F.hs ≤ 1000000 := by have := few_sz h; omega
end Go.Proofs.YtbchkopkgpfkgaaGreatDoor

namespace Go.Proofs.YtbchkopkgpfkgaaGreatDoor
open Go Go.Vc
theorem nm_iff {s : ByteArray} : (s = ⟨#[]⟩ ∨ (40 : Int) < s.size) ↔ ((s.size : Int) < 1 ∨ (40 : Int) < s.size) := by
  have : s = ⟨#[]⟩ ↔ (s.size : Int) < 1 := by
    constructor
    · intro h; subst h; show (((#[] : Array UInt8).size : Nat) : Int) < 1; simp
    · intro h
      obtain ⟨a⟩ := s
      have : a.size = 0 := by have : (⟨a⟩ : ByteArray).size = a.size := rfl; omega
      rw [Array.eq_empty_of_size_eq_zero this]
  rw [this]
/-- The least and the greatest number of kids. -/
def kdl (o : Int) : Int := if knR o = -2 then 2 else knR o
def kdh (o : Int) : Int := if knR o = -2 then 33 else knR o
theorem kd_ok {o k : Int} (h : ¬ kBad o k) : 0 ≤ kdl o ∧ kdl o ≤ k ∧ k ≤ kdh o := by
  have hk : knR o = 0 ∨ knR o = 1 ∨ knR o = 2 ∨ knR o = 3 ∨ knR o = -2 ∨ knR o = -1 := by unfold knR; (repeat' split) <;> omega
  unfold kBad at h
  unfold kdl kdh
  split <;> omega
/-- The hull with single numbers. -/
def hulN (a : Pr2) (L : List Int) : Pr2 := L.foldl (fun a n => (mnI a.1 n, mxI a.2 n)) a
theorem hulN_take {a : Pr2} {L : List Int} {i : Int} (h0 : 0 ≤ i) (h1 : i < L.length) : hulN a (L.take (i + 1).toNat) = (mnI (hulN a (L.take i.toNat)).1 (gi L i), mxI (hulN a (L.take i.toNat)).2 (gi L i)) := by
  rw [show (i + 1).toNat = i.toNat + 1 by omega, List.take_add_one, List.getElem?_eq_getElem (by omega)]
  unfold hulN gi
  rw [List.foldl_append, List.getD_eq_getElem?_getD, List.getElem?_eq_getElem (by omega)]; rfl
theorem cor_eq {a b c d : Int} : hulN (a, a) [b, c, d] = (mnI (mnI a b) (mnI c d), mxI (mxI a b) (mxI c d)) := by
  show (mnI (mnI (mnI a b) c) d, mxI (mxI (mxI a b) c) d) = _
  unfold mnI mxI
  refine Prod.ext ?_ ?_ <;> ((repeat' split) <;> first | rfl | omega)
end Go.Proofs.YtbchkopkgpfkgaaGreatDoor

namespace Go.Vc
open Go Go.RowKit
def dropR (v : Value) (lo s : Nat) : Value := match v with | .slice a n c => .slice (if c = lo then a else a.map (·.add (lo * s))) (n - lo) (c - lo) | _ => v
section
variable {P : Program} {C : Cx} {env : Env} {V : HV} {σ : Res} {x y z : Operand} {T E t : TypeId} {dst : Option Nat} {pos : String} {af : Array Edge} {g : Option (Nat × Bool)} {n s : Nat} {xs : List Value} {v : Value}
theorem SlS.dropR {H : HV} (h : SlS s H v n xs) {m : Nat} (hm : m ≤ n) : SlS s H (Go.Vc.dropR v m s) (n - m) (xs.drop (m * s)) := by
  obtain ⟨a, c, rfl, h1, h2, hl, h3⟩ := h
  have e : n = m + (n - m) := by omega
  have hms : n * s = m * s + (n - m) * s := by rw [← Nat.add_mul, ← e]
  refine ⟨_, _, rfl, by omega, by omega, by rw [List.length_drop, hl]; omega, fun hne => ?_⟩
  obtain ⟨b, off, cs, T, fz, e1, e2, e3⟩ := h3 (by omega)
  subst e1
  refine ⟨b, off + m * s, cs, T, fz, ?_, e2, fun i hi => ?_⟩
  · rw [if_neg (by omega)]; simp [add_none]
  · rw [Nat.add_assoc, e3 _ (by omega), List.getElem?_drop]
theorem qv_sliceLoR {H : HV} {kk : IntKind} {lo : Int} (hT : P.underlying T = some (.slice E)) (hS : SizeIs P E s) (hx : ev env x = v) (hv : SlS s H v n xs) (hy : ev env y = .int kk lo) (h0 : 0 ≤ lo) (h1 : lo ≤ n) :
    QV P C ⟨dst, .slice T x (some y) none none, t, pos, af, g⟩ env V σ (Go.Vc.dropR v lo.toNat s) := qv_run fun w _ => by
  obtain ⟨a, c, rfl, hc, _, _, h3⟩ := hv
  obtain ⟨q, rfl⟩ : ∃ q : Nat, lo = q := ⟨lo.toNat, by omega⟩
  have h6 : q ≤ n := by omega
  by_cases h7 : c = q
  · subst h7
    simp only [Int.toNat_natCast, Go.Vc.dropR]
    simp [execOp, hx, hy, Instr.sliceAt, Instr.slice, run_underlying hT, Instr.sliceBounds, Instr.sliceBound, asIntOf, run_sizeOf hS, h6]
  · simp only [Int.toNat_natCast, Go.Vc.dropR]
    cases a with
    | none => simp [execOp, hx, hy, Instr.sliceAt, Instr.slice, run_underlying hT, Instr.sliceBounds, Instr.sliceBound, asIntOf, run_sizeOf hS, h6, h7]
    | some a => simp [execOp, hx, hy, Instr.sliceAt, Instr.slice, run_underlying hT, Instr.sliceBounds, Instr.sliceBound, asIntOf, run_sizeOf hS, h6, h7]
end
end Go.Vc
namespace Go.Proofs.YtbchkopkgpfkgaaGreatDoor
open Go Go.Vc
def prk (r : Pr2) : List Value := [.int .i64 r.1, .int .i64 r.2]
def prcs (K : List Pr2) : List Value := K.flatMap prk
theorem prcs_snoc (K : List Pr2) (r : Pr2) : prcs (K ++ [r]) = prcs K ++ prk r := by simp [prcs]
theorem prcs_get : ∀ (K : List Pr2) (i : Nat), i < K.length → ((prcs K).drop (i * 2)).take 2 = prk (K.getD i (0, 0))
  | a :: K, 0, _ => rfl
  | a :: K, i + 1, h => by
    have := prcs_get K i (by simpa using h)
    show ((prk a ++ prcs K).drop ((i + 1) * 2)).take 2 = _
    rw [show (i + 1) * 2 = (prk a).length + i * 2 by simp [prk]; omega, List.drop_append, List.drop_of_length_le (by omega)]
    simp
    exact this
theorem prcs_at {K : List Pr2} {i : Int} (_h0 : 0 ≤ i) (h1 : i < K.length) : ((prcs K).drop (i.toNat * 2)).take 2 = [.int .i64 (pg K i).1, .int .i64 (pg K i).2] := prcs_get K i.toNat (by omega)
theorem prcs_el {K : List Pr2} {i : Int} {o : Nat} {u : Value} (h0 : 0 ≤ i) (h1 : i < K.length) (ho : o < 2) (hu : [Value.int .i64 (pg K i).1, .int .i64 (pg K i).2][o]? = some u) : (prcs K)[i.toNat * 2 + o]? = some u := by
  rw [← hu, ← prcs_at h0 h1, List.getElem?_take, if_pos ho, List.getElem?_drop]
theorem prcs_drop : ∀ (K : List Pr2) (m : Nat), (prcs K).drop (m * 2) = prcs (K.drop m)
  | K, 0 => rfl
  | [], m + 1 => by simp [prcs]
  | a :: K, m + 1 => by
    show (prk a ++ prcs K).drop ((m + 1) * 2) = prcs (K.drop m)
    rw [← prcs_drop K m, show (m + 1) * 2 = (prk a).length + m * 2 by simp [prk]; omega, List.drop_append, List.drop_of_length_le (by omega)]
    simp
def Prs (H : HV) (v : Value) (K : List Pr2) : Prop := SlS 2 H v K.length (prcs K)
theorem Prs.mono {H H' : HV} {v : Value} {K : List Pr2} (h : Prs H v K) (s : Vc.Sub H H') : Prs H' v K := SlS.mono h s
theorem Prs.drop {H : HV} {v : Value} {K : List Pr2} (h : Prs H v K) {m : Nat} (hm : m ≤ K.length) : Prs H (dropR v m 2) (K.drop m) := by
  have := SlS.dropR h hm
  rw [prcs_drop] at this
  unfold Prs
  rw [List.length_drop]
  exact this
theorem hulL_take {a : Pr2} {L : List Pr2} {i : Int} (h0 : 0 ≤ i) (h1 : i < L.length) : hulL a (L.take (i + 1).toNat) = (mnI (hulL a (L.take i.toNat)).1 (pg L i).1, mxI (hulL a (L.take i.toNat)).2 (pg L i).2) := by
  rw [show (i + 1).toNat = i.toNat + 1 by omega, List.take_add_one, List.getElem?_eq_getElem (by omega)]
  unfold hulL pg
  rw [List.foldl_append, List.getD_eq_getElem?_getD, List.getElem?_eq_getElem (by omega)]; rfl
theorem lit_in {vs : List Vr} {n : Int} {K : List Pr2} (h : wiM (rul vs 0 n K)) : ¬ (n < -1048576 ∨ 1048576 < n) := by
  intro q
  rw [rul_0a q] at h
  unfold wiM at h
  have := h.1
  have e : ((-1048577 : Int), (1048577 : Int)).1 = -1048577 := rfl
  rw [e] at this
  omega
end Go.Proofs.YtbchkopkgpfkgaaGreatDoor

namespace Go.Proofs.YtbchkopkgpfkgaaGreatDoor
open Go Go.Vc
open Classical
def risP (l : List Int) : Prop := ∀ i : Int, 1 ≤ i → i < l.length → ¬ gi l i ≤ gi l (i - 1)
section
variable {F : Fl} {s : St} {p : Prop}
theorem shp_num (h : shpP F s p) :
    (s.dk = 0 ∧ s.thn.length = 0 ∧ s.els.length = 0 ∧ 0 ≤ s.var ∧ s.var < (F.vs.length : Int) ∧ (vr F.vs s.var).kd = 0 ∧ s.n = 0 ∧ s.bds.length = 0) ∨
    (s.dk = 1 ∧ s.thn.length = 0 ∧ s.els.length = 0 ∧ s.var = 0 ∧ s.n = 0 ∧ s.bds.length = 0) ∨
    (s.dk = 2 ∧ s.thn.length = 0 ∧ s.els.length = 0 ∧ s.var = 0 ∧ s.n = 0 ∧ s.bds.length = 0) ∨
    (s.dk = 3 ∧ s.var = 0 ∧ s.n = 0 ∧ s.bds.length = 0) ∨ (s.dk = 4 ∧ s.var = 0 ∧ s.els.length = 0 ∧ s.bds.length = 0) ∨
    (s.dk = 5 ∧ s.thn.length = 0 ∧ s.els.length = 0 ∧ 0 ≤ s.var ∧ s.var < (F.vs.length : Int) ∧ (vr F.vs s.var).kd = 0 ∧ 0 ≤ s.n ∧ s.n < (F.hs.length : Int) ∧ s.bds.length = 0) ∨
    (s.dk = 6 ∧ s.thn.length = 0 ∧ s.els.length = 0 ∧ s.var = 0 ∧ s.n = 0 ∧ 1 ≤ s.bds.length ∧ s.bds.length ≤ 32 ∧ 0 ≤ gi s.bds 0) := by
  by_cases e : s.dk = 0 ∨ s.dk = 1 ∨ s.dk = 2 ∨ s.dk = 3 ∨ s.dk = 4 ∨ s.dk = 5 ∨ s.dk = 6
  · rcases e with e | e | e | e | e | e | e
    · rw [shp_0 e] at h; unfold frP lcP nbP at h; omega
    · rw [shp_1 e] at h; unfold frP nbP at h; omega
    · rw [shp_2 e] at h; have h := h.1; unfold frP nbP at h; omega
    · rw [shp_3 e] at h; unfold nbP at h; omega
    · rw [shp_4 e] at h; unfold nbP at h; omega
    · rw [shp_5 e] at h; have h := h.1; unfold frP lcP nbP at h; omega
    · rw [shp_6 e] at h
      obtain ⟨⟨⟨⟨⟨h1, _⟩, h2⟩, h3⟩, _⟩, h4⟩ := h
      have h5 := h4.1
      unfold frP at h1
      omega
  · exact absurd h (shp_e e)
theorem shp_pln (h : shpP F s p) (e : ¬ (s.dk = 0 ∨ s.dk = 1 ∨ s.dk = 3 ∨ s.dk = 4)) : pln s.tm := by
  have := shp_num h
  by_cases e2 : s.dk = 2
  · rw [shp_2 e2] at h; exact h.2
  · by_cases e5 : s.dk = 5
    · rw [shp_5 e5] at h; exact h.2
    · rw [shp_6 (by omega)] at h; exact h.1.2
theorem shp_s (h : shpP F s p) (e : s.dk = 6) : p ∧ risP s.bds := by
  rw [shp_6 e] at h
  exact ⟨h.1.1.1.1.2, h.2.2⟩
end
end Go.Proofs.YtbchkopkgpfkgaaGreatDoor

namespace Go.Proofs.YtbchkopkgpfkgaaGreatDoor
open Go Go.Vc
open Classical
section
variable {s : St} {X : Int}
theorem cS4 (h : s.nn) (hX : 0 ≤ X) (e : s.dk = 4) : mnI (mnI X 1099511627776 + (1 + s.n * (1 + mnI (ubS s.thn) 1099511627776))) 1099511627776 = mnI (X + s.uS) 1099511627776 := by
  obtain ⟨_, h2, h3, _⟩ := (nn_eq s).1 h
  have u := (ubs_nn _ h3).1
  have m := mn_bd (U := ubS s.thn) (L := 1099511627776) u (by omega)
  have p := Int.mul_nonneg h2 (show 0 ≤ 1 + ubS s.thn by omega)
  have p' := Int.mul_nonneg h2 (show 0 ≤ 1 + mnI (ubS s.thn) 1099511627776 by omega)
  rw [uS_eq, if_pos e]
  apply cap_add hX (by omega) (by omega) (by omega)
  have c := cap_mul (n := s.n) (x := 1) (U := ubS s.thn) (L := 1099511627776) h2 (by omega) u (by omega)
  have := cap_add (X := 1) (Y := s.n * (1 + ubS s.thn)) (y := s.n * (1 + mnI (ubS s.thn) 1099511627776)) (L := 1099511627776) (by omega) p p' (by omega) c
  exact this
theorem cS0 (h : s.nn) (hX : 0 ≤ X) (e : ¬ s.dk = 4) : mnI (mnI X 1099511627776 + (1 + mxI (mnI (ubS s.thn) 1099511627776) (mnI (ubS s.els) 1099511627776))) 1099511627776 = mnI (X + s.uS) 1099511627776 := by
  obtain ⟨_, h2, h3, h4⟩ := (nn_eq s).1 h
  have u := (ubs_nn _ h3).1
  have w := (ubs_nn _ h4).1
  have m := mx_bd (mn_bd (U := ubS s.thn) (L := 1099511627776) u (by omega)) (mn_bd (U := ubS s.els) (L := 1099511627776) w (by omega))
  have m2 : 0 ≤ mxI (ubS s.thn) (ubS s.els) := by unfold mxI; split <;> omega
  rw [uS_eq, if_neg e]
  exact cap_add hX (by omega) (by omega) (by omega) (cap_max (x := 1) (by omega) u w (by omega))
theorem cO4 (h : s.nn) (hX : 0 ≤ X) (e : s.dk = 4) : mnI (mnI X 1099511627776 + s.n * mnI (ubO s.thn) 1099511627776) 1099511627776 = mnI (X + s.uO) 1099511627776 := by
  obtain ⟨_, h2, h3, _⟩ := (nn_eq s).1 h
  have u := (ubs_nn _ h3).2.1
  have m := mn_bd (U := ubO s.thn) (L := 1099511627776) u (by omega)
  have p := Int.mul_nonneg h2 u
  have p' := Int.mul_nonneg h2 m.1
  rw [uO_eq, if_neg (by omega), if_pos e]
  have c := cap_mul (n := s.n) (x := 0) (U := ubO s.thn) (L := 1099511627776) h2 (by omega) u (by omega)
  rw [Int.zero_add, Int.zero_add] at c
  exact cap_add hX p p' (by omega) c
theorem cO0 (h : s.nn) (hX : 0 ≤ X) (e : ¬ s.dk = 4) (e1 : ¬ s.dk = 1) : mnI (mnI X 1099511627776 + mxI (mnI (ubO s.thn) 1099511627776) (mnI (ubO s.els) 1099511627776)) 1099511627776 = mnI (X + s.uO) 1099511627776 := by
  obtain ⟨_, h2, h3, h4⟩ := (nn_eq s).1 h
  have u := (ubs_nn _ h3).2.1
  have w := (ubs_nn _ h4).2.1
  have m := mx_bd (mn_bd (U := ubO s.thn) (L := 1099511627776) u (by omega)) (mn_bd (U := ubO s.els) (L := 1099511627776) w (by omega))
  have m2 : 0 ≤ mxI (ubO s.thn) (ubO s.els) := by unfold mxI; split <;> omega
  rw [uO_eq, if_neg e1, if_neg e]
  have c := cap_max (x := 0) (U := ubO s.thn) (W := ubO s.els) (L := 1099511627776) (by omega) u w (by omega)
  rw [Int.zero_add, Int.zero_add] at c
  exact cap_add hX (by omega) (by omega) (by omega) c
theorem cT4 (h : s.nn) (hX : 0 ≤ X) (e : s.dk = 4) : mnI (mnI X 1099511627776 + s.n * (s.cost + mnI (ubT s.thn) 1099511627776)) 1099511627776 = mnI (X + s.uT) 1099511627776 := by
  obtain ⟨h1, h2, h3, _⟩ := (nn_eq s).1 h
  have u := (ubs_nn _ h3).2.2
  have m := mn_bd (U := ubT s.thn) (L := 1099511627776) u (by omega)
  have p := Int.mul_nonneg h2 (show 0 ≤ s.cost + ubT s.thn by omega)
  have p' := Int.mul_nonneg h2 (show 0 ≤ s.cost + mnI (ubT s.thn) 1099511627776 by omega)
  rw [uT_eq, if_pos e]
  exact cap_add hX p p' (by omega) (cap_mul h2 h1 u (by omega))
theorem cT0 (h : s.nn) (hX : 0 ≤ X) (e : ¬ s.dk = 4) : mnI (mnI X 1099511627776 + (s.cost + mxI (mnI (ubT s.thn) 1099511627776) (mnI (ubT s.els) 1099511627776))) 1099511627776 = mnI (X + s.uT) 1099511627776 := by
  obtain ⟨h1, h2, h3, h4⟩ := (nn_eq s).1 h
  have u := (ubs_nn _ h3).2.2
  have w := (ubs_nn _ h4).2.2
  have m := mx_bd (mn_bd (U := ubT s.thn) (L := 1099511627776) u (by omega)) (mn_bd (U := ubT s.els) (L := 1099511627776) w (by omega))
  have m2 : 0 ≤ mxI (ubT s.thn) (ubT s.els) := by unfold mxI; split <;> omega
  rw [uT_eq, if_neg e]
  exact cap_add hX (by omega) (by omega) (by omega) (cap_max h1 u w (by omega))
end
theorem u_o {F : Fl} {last : Prop} {s : St} (h : StOk F last s) (e3 : ¬ s.dk = 3) (e4 : ¬ s.dk = 4) : s.uS = 1 ∧ s.uT = s.cost ∧ s.uO = if s.dk = 1 then 1 else 0 := by
  have z := shp_num (StOk_eq.1 h).1.shp
  have a : s.thn = [] := List.eq_nil_of_length_eq_zero (by omega)
  have b : s.els = [] := List.eq_nil_of_length_eq_zero (by omega)
  rw [uS_eq, uT_eq, uO_eq, if_neg e4, if_neg e4, if_neg e4, a, b]
  refine ⟨rfl, ?_, rfl⟩
  show s.cost + 0 = _
  omega
theorem mn_if {z L : Int} : (if L < z then L else z) = mnI z L := by unfold mnI; (repeat' split) <;> omega
theorem add_cap {X y Y : Int} (hX : 0 ≤ X) (hy : y = Y) (h0 : 0 ≤ Y) : mnI (mnI X 1099511627776 + y) 1099511627776 = mnI (X + Y) 1099511627776 := cap_add hX h0 (by omega) (by omega) (by rw [hy])
end Go.Proofs.YtbchkopkgpfkgaaGreatDoor

namespace Go.Proofs.YtbchkopkgpfkgaaGreatDoor
open Go Go.Vc
/-- The element i of the vector with the number r. -/
def unE (L : List Vr) (r i : Int) : Int := (vr L i).lo + (r / prd (L.drop (i + 1).toNat)) % ((vr L i).hi - (vr L i).lo + 1)
def unL (L : List Vr) (r : Int) : List Int := (List.range L.length).map fun i : Nat => unE L r i
theorem unL_len (L : List Vr) (r : Int) : (unL L r).length = L.length := by simp [unL]
theorem unL_gi {L : List Vr} {r i : Int} (h0 : 0 ≤ i) (h1 : i < L.length) : gi (unL L r) i = unE L r i := by
  unfold unL gi
  rw [List.getD_eq_getElem?_getD, List.getElem?_map, List.getElem?_range (by omega)]
  show unE L r (i.toNat : Nat) = _
  rw [show ((i.toNat : Nat) : Int) = i by omega]
theorem prd_dropS {L : List Vr} {i : Int} (h0 : 0 ≤ i) (h1 : i < L.length) : prd (L.drop i.toNat) = ((vr L i).hi - (vr L i).lo + 1) * prd (L.drop (i + 1).toNat) := by
  rw [vr_drop h0 h1]; rfl
theorem prd_dpos {L : List Vr} (h : ∀ v ∈ L, v.lo ≤ v.hi) (n : Nat) : 1 ≤ prd (L.drop n) := prd_pos fun v q => h v (List.mem_of_mem_drop q)
theorem un_next {L : List Vr} {r i : Int} (h : ∀ v ∈ L, v.lo ≤ v.hi) (h0 : 0 ≤ i) (h1 : i < L.length) : r / prd (L.drop (i + 1).toNat) / ((vr L i).hi - (vr L i).lo + 1) = r / prd (L.drop i.toNat) := by
  have := prd_dpos h (i + 1).toNat
  rw [prd_dropS h0 h1, Int.mul_comm, Int.ediv_ediv_of_nonneg (by omega)]
theorem un_in {L : List Vr} {r i : Int} (h : ∀ v ∈ L, v.lo ≤ v.hi) (h0 : 0 ≤ i) (h1 : i < L.length) : (vr L i).lo ≤ unE L r i ∧ unE L r i ≤ (vr L i).hi := by
  have hm := h _ (vr_in (l := L) h0 h1)
  have a := Int.emod_nonneg (r / prd (L.drop (i + 1).toNat)) (show (vr L i).hi - (vr L i).lo + 1 ≠ 0 by omega)
  have b := Int.emod_lt_of_pos (r / prd (L.drop (i + 1).toNat)) (show 0 < (vr L i).hi - (vr L i).lo + 1 by omega)
  unfold unE
  omega
theorem unL_in {L : List Vr} {r : Int} (h : ∀ v ∈ L, v.lo ≤ v.hi) : inR L (unL L r) := fun i a b => by rw [unL_gi a b]; exact un_in h a b
theorem un_step {L : List Vr} {Z : List Int} {r j : Int} (hz : Z.length = L.length) (h0 : 0 ≤ j) (h1 : j < L.length) (ha : ∀ x : Int, j < x → x < L.length → gi Z x = unE L r x) : ∀ x : Int, j - 1 < x → x < L.length → gi (Z.set j.toNat (unE L r j)) x = unE L r x := fun x a b => by
  unfold gi at *
  by_cases e : x = j
  · subst e
    rw [List.getD_eq_getElem?_getD, List.getElem?_set_self (by omega)]; rfl
  · have := ha x (by omega) b
    rw [List.getD_eq_getElem?_getD, List.getElem?_set_ne (by omega), ← List.getD_eq_getElem?_getD]
    exact this
theorem un_done {V : HV} {L : List Vr} {Z : List Int} {r : Int} {b c : Nat} (h : Cells V b (Z.map (Value.int .i64))) (hz : Z.length = L.length) (ha : ∀ x : Int, 0 ≤ x → x < L.length → gi Z x = unE L r x) (hc : L.length ≤ c) (hm : c ≤ 9223372036854775807) : Ints .i64 V (.slice (some ⟨b, 0, none⟩) L.length c) (unL L r) := by
  have e : Z = unL L r := ext_gi (by rw [unL_len]; exact hz) fun x a b => by rw [ha x a (by omega), unL_gi a (by omega)]
  subst e
  exact ints_cells h (unL_len L r).symm hc hm
end Go.Proofs.YtbchkopkgpfkgaaGreatDoor

namespace Go.Proofs.YtbchkopkgpfkgaaGreatDoor
open Go Go.Vc
def dvF (x y : Int) : Int := if y = 0 then 0 else if x.tmod y ≠ 0 ∧ ¬ (x < 0 ↔ y < 0) then x.tdiv y - 1 else x.tdiv y
def mdF (x y : Int) : Int := if y = 0 then 0 else x - y * dvF x y
theorem dvF_z {x y : Int} (h : y = 0) : dvF x y = 0 := if_pos h
theorem dvF_a {x y : Int} (h : y ≠ 0) (q : x.tmod y ≠ 0) (q2 : ¬ (x < 0 ↔ y < 0)) : dvF x y = x.tdiv y - 1 := by unfold dvF; rw [if_neg h, if_pos ⟨q, q2⟩]
theorem dvF_n {x y : Int} (h : y ≠ 0) (q : ¬ (x.tmod y ≠ 0 ∧ ¬ (x < 0 ↔ y < 0))) : dvF x y = x.tdiv y := by unfold dvF; rw [if_neg h, if_neg q]
theorem tdv_bd (x y : Int) : (x.tdiv y).natAbs ≤ x.natAbs := by rw [Int.natAbs_tdiv]; exact Nat.div_le_self ..
theorem dvF_f {x y : Int} (h : y ≠ 0) : dvF x y = x.fdiv y := by
  rw [Int.fdiv_eq_tdiv]
  by_cases b : x.tmod y ≠ 0 ∧ ¬ (x < 0 ↔ y < 0)
  · have hd : ¬ y ∣ x := fun e => b.1 (Int.dvd_iff_tmod_eq_zero.1 e)
    rw [dvF_a h b.1 b.2, if_neg hd]
    have b2 := b.2
    by_cases hx : 0 ≤ x
    · rw [if_pos hx, if_neg (by omega)]
    · rw [if_neg hx, if_pos (by omega), Int.sign_eq_one_of_pos (by omega)]
  · rw [dvF_n h b]
    by_cases hd : y ∣ x
    · rw [if_pos hd]; omega
    · rw [if_neg hd]
      have h2 : (x < 0) ↔ (y < 0) := Classical.byContradiction fun q => b ⟨fun e => hd (Int.dvd_iff_tmod_eq_zero.2 e), q⟩
      by_cases hx : 0 ≤ x
      · rw [if_pos hx, if_pos (by omega)]; omega
      · rw [if_neg hx, if_neg (by omega), Int.sign_eq_neg_one_of_neg (by omega)]; omega
theorem dvF_in {x y : Int} : (dvF x y).natAbs ≤ x.natAbs ∧ (0 ≤ x → 0 ≤ y → 0 ≤ dvF x y) := by
  by_cases h : y = 0
  · rw [dvF_z h]; constructor
    · show 0 ≤ _; omega
    · intros; omega
  · rw [dvF_f h]
    refine ⟨?_, fun a b => ?_⟩
    · rw [Int.fdiv_eq_ediv]
      have e := Int.emod_add_mul_ediv x y
      have e1 := Int.emod_nonneg x h
      have hn : (x / y).natAbs ≤ x.natAbs := Int.natAbs_ediv_le_natAbs x y
      split
      · omega
      · rename_i hh
        have hy0 : y < 0 := by omega
        have hd : ¬ y ∣ x := fun e => hh (Or.inr e)
        have hnz : x % y ≠ 0 := fun e => hd (Int.dvd_of_emod_eq_zero e)
        by_cases p : x / y ≤ 0
        · by_cases p0 : (x / y).natAbs < x.natAbs
          · omega
          · have p1 : x / y = x ∨ x / y = -x := by omega
            have p3 : y * (x / y) = x - x % y := by omega
            have p4 : x ≠ 0 := fun e0 => hnz (by rw [e0]; exact Int.zero_emod y)
            have p5 : x % y < -y := by have := Int.emod_lt_of_neg x hy0; omega
            have p6 : y * (x / y) = -(-y * (x / y)) := by rw [Int.neg_mul, Int.neg_neg]
            have p7 : x / y = -((x / y).natAbs : Int) := by omega
            have p8 : y * (x / y) = -y * ((x / y).natAbs : Int) := by
              have : y * (x / y) = y * -((x / y).natAbs : Int) := congrArg (y * ·) p7
              rw [this, Int.mul_neg, Int.neg_mul]
            by_cases py : y = -1
            · subst py; omega
            · have p9 : 2 * ((x / y).natAbs : Int) ≤ -y * ((x / y).natAbs : Int) := Int.mul_le_mul_of_nonneg_right (by omega) (by omega)
              omega
        · omega
    · rw [Int.fdiv_eq_ediv, if_pos (Or.inl b)]
      have := Int.ediv_nonneg a b
      omega
theorem mdF_in {x y : Int} : (y = 0 → mdF x y = 0) ∧ (0 < y → 0 ≤ mdF x y ∧ mdF x y < y) ∧ (y < 0 → y < mdF x y ∧ mdF x y ≤ 0) := by
  refine ⟨fun h => if_pos h, fun h => ?_, fun h => ?_⟩
  · have e := Int.emod_add_mul_ediv x y
    have e1 := Int.emod_nonneg x (show y ≠ 0 by omega)
    have e2 := Int.emod_lt_of_pos x h
    unfold mdF
    rw [if_neg (by omega), dvF_f (by omega), Int.fdiv_eq_ediv, if_pos (Or.inl (by omega)), Int.mul_sub]
    omega
  · have e := Int.emod_add_mul_ediv x y
    have e1 := Int.emod_nonneg x (show y ≠ 0 by omega)
    have e2 := Int.emod_lt_of_neg x h
    unfold mdF
    rw [if_neg (by omega), dvF_f (by omega), Int.fdiv_eq_ediv, Int.mul_sub]
    split
    · rename_i q
      have hd : y ∣ x := q.resolve_left (by omega)
      have := Int.emod_eq_zero_of_dvd hd
      omega
    · rename_i q
      have hnz : x % y ≠ 0 := fun e => q (Or.inr (Int.dvd_of_emod_eq_zero e))
      omega
/-- A number held in a range. -/
def hld (n lo hi : Int) : Int := mnI (mxI lo n) hi
def vbin (op a b : Int) : Int :=
  if op = 8 then a + b else if op = 9 then a - b else if op = 10 then a * b else if op = 11 then dvF a b else if op = 12 then mdF a b
  else if op = 13 then (if a = b then 1 else 0) else if op = 14 then (if a ≠ b then 1 else 0) else if op = 15 then (if a < b then 1 else 0) else if op = 16 then (if a ≤ b then 1 else 0)
  else if op = 17 then (if b < a then 1 else 0) else if op = 18 then (if b ≤ a then 1 else 0) else if op = 19 then (if a ≠ 0 ∧ b ≠ 0 then 1 else 0) else if op = 20 then (if a ≠ 0 ∨ b ≠ 0 then 1 else 0)
  else if op = 21 then mnI a b else mxI a b
def vop (xs : List Int) (op n : Int) (k : List Int) : Int :=
  if op = 0 then n else if op = 24 then gi xs n else if op = 6 then -(gi k 0) else if op = 7 then (if gi k 0 = 0 then 1 else 0)
  else if op = 23 then (if gi k 0 ≠ 0 then gi k 1 else gi k 2) else if op = 25 then gi k (1 + hld (gi k 0) 0 ((k.length : Int) - 2)) else vbin op (gi k 0) (gi k 1)
mutual
/-- The value of a term. -/
def val (xs : List Int) : Tm → Int
  | .mk op n k => vop xs op n (valL xs k)
def valL (xs : List Int) : List Tm → List Int
  | [] => []
  | t :: r => val xs t :: valL xs r
end
theorem val_eq {xs : List Int} (t : Tm) : val xs t = vop xs t.op t.n (valL xs t.kids) := by cases t; rfl
theorem valL_map (xs : List Int) : ∀ l : List Tm, valL xs l = l.map (val xs)
  | [] => rfl
  | t :: r => by show val xs t :: valL xs r = _; rw [valL_map xs r]; rfl
theorem valL_len (xs : List Int) (l : List Tm) : (valL xs l).length = l.length := by rw [valL_map, List.length_map]
theorem valL_gi {xs : List Int} {l : List Tm} {i : Int} (h0 : 0 ≤ i) (h1 : i < l.length) : gi (valL xs l) i = val xs (tm l i) := by
  unfold gi tm
  rw [valL_map, List.getD_eq_getElem?_getD, List.getD_eq_getElem?_getD, List.getElem?_map, List.getElem?_eq_getElem (by omega)]; rfl
/-- A number in a range. -/
def inP (r : Pr2) (x : Int) : Prop := r.1 ≤ x ∧ x ≤ r.2
theorem lin {a l h b : Int} (h1 : l ≤ a) (h2 : a ≤ h) : (l * b ≤ a * b ∧ a * b ≤ h * b) ∨ (h * b ≤ a * b ∧ a * b ≤ l * b) := by
  by_cases q : 0 ≤ b
  · exact .inl ⟨Int.mul_le_mul_of_nonneg_right h1 q, Int.mul_le_mul_of_nonneg_right h2 q⟩
  · exact .inr ⟨Int.mul_le_mul_of_nonpos_right h2 (by omega), Int.mul_le_mul_of_nonpos_right h1 (by omega)⟩
theorem mul_cor {a b l h m k : Int} (h1 : l ≤ a) (h2 : a ≤ h) (h3 : m ≤ b) (h4 : b ≤ k) :
    mnI (mnI (l * m) (l * k)) (mnI (h * m) (h * k)) ≤ a * b ∧ a * b ≤ mxI (mxI (l * m) (l * k)) (mxI (h * m) (h * k)) := by
  have x := lin (b := b) h1 h2
  have y := lin (b := l) h3 h4
  have z := lin (b := h) h3 h4
  rw [Int.mul_comm m l, Int.mul_comm b l, Int.mul_comm k l] at y
  rw [Int.mul_comm m h, Int.mul_comm b h, Int.mul_comm k h] at z
  unfold mnI mxI
  generalize a * b = p at *
  generalize l * b = p1 at *
  generalize h * b = p2 at *
  generalize l * m = q1 at *
  generalize l * k = q2 at *
  generalize h * m = q3 at *
  generalize h * k = q4 at *
  constructor <;> ((repeat' split) <;> omega)
theorem hul_in {x : Int} : ∀ (l : List Pr2) (a : Pr2), (inP a x ∨ ∃ r ∈ l, inP r x) → inP (hulL a l) x
  | [], a, h => by
    rcases h with h | ⟨r, hr, _⟩
    · exact h
    · exact absurd hr (by simp)
  | p :: r, a, h => by
    show inP (hulL (mnI a.1 p.1, mxI a.2 p.2) r) x
    refine hul_in r _ ?_
    have go : (inP a x ∨ inP p x) → inP (mnI a.1 p.1, mxI a.2 p.2) x := by
      unfold inP mnI mxI
      intro q
      constructor <;> (dsimp only; split <;> omega)
    rcases h with h | ⟨y, hy, h⟩
    · exact .inl (go (.inl h))
    · rcases List.mem_cons.1 hy with rfl | hy
      · exact .inl (go (.inr h))
      · exact .inr ⟨y, hy, h⟩
theorem hul_pick {K : List Pr2} {x j : Int} (h1 : 1 ≤ j) (h2 : j < K.length) (h : inP (pg K j) x) : inP (hulL (pg K 1) (K.drop 2)) x := by
  by_cases e : j = 1
  · subst e; exact hul_in _ _ (.inl h)
  · refine hul_in _ _ (.inr ⟨pg K j, ?_, h⟩)
    unfold pg
    rw [List.getD_eq_getElem?_getD, List.getElem?_eq_getElem (by omega)]
    refine List.mem_drop_iff_getElem.2 ⟨j.toNat - 2, by omega, ?_⟩
    show K[2 + (j.toNat - 2)]'_ = (some (K[j.toNat]'_)).getD _
    simp only [Option.getD_some]
    congr 1
    omega
section
variable {vs : List Vr} {inp : Bool} {xs : List Int}
set_option maxHeartbeats 2000000 in
theorem vop_in {op n : Int} {k : List Int} {K : List Pr2} (hx : inR vs xs) (hk : ¬ kBad op k.length) (hn : ¬ nBad vs inp op n) (hl : k.length = K.length) (hi : ∀ j : Int, 0 ≤ j → j < k.length → inP (pg K j) (gi k j)) (hw : wiM (rul vs op n K)) : inP (rul vs op n K) (vop xs op n k) := by
  by_cases e0 : op = 0
  · subst e0
    have h : ¬ (n < -1048576 ∨ 1048576 < n) := lit_in hw
    rw [rul_0b h]
    exact ⟨Int.le_refl _, Int.le_refl _⟩
  by_cases e24 : op = 24
  · subst e24
    have hv : 0 ≤ n ∧ n < (vs.length : Int) := Classical.byContradiction fun q => hn (.inl ⟨rfl, .inl (by omega)⟩)
    exact hx n hv.1 hv.2
  by_cases e6 : op = 6
  · subst e6
    have hc := kb1 hk (.inl rfl)
    have h0 := hi 0 (by omega) (by omega)
    unfold inP at h0
    show -(pg K 0).2 ≤ -(gi k 0) ∧ -(gi k 0) ≤ -(pg K 0).1
    omega
  by_cases e7 : op = 7
  · subst e7
    show (0 : Int) ≤ (if gi k 0 = 0 then 1 else 0) ∧ (if gi k 0 = 0 then (1 : Int) else 0) ≤ 1
    split <;> omega
  by_cases e23 : op = 23
  · subst e23
    have hc := kb3 hk rfl
    show inP (hulL (pg K 1) (K.drop 2)) (if gi k 0 ≠ 0 then gi k 1 else gi k 2)
    split
    · exact hul_pick (j := 1) (by omega) (by omega) (hi 1 (by omega) (by omega))
    · exact hul_pick (j := 2) (by omega) (by omega) (hi 2 (by omega) (by omega))
  by_cases e25 : op = 25
  · subst e25
    have hc := kb4 hk rfl
    show inP (hulL (pg K 1) (K.drop 2)) (gi k (1 + hld (gi k 0) 0 ((k.length : Int) - 2)))
    have hb : 0 ≤ hld (gi k 0) 0 ((k.length : Int) - 2) ∧ hld (gi k 0) 0 ((k.length : Int) - 2) ≤ (k.length : Int) - 2 := by
      unfold hld mnI mxI
      (repeat' split) <;> omega
    exact hul_pick (by omega) (by omega) (hi _ (by omega) (by omega))
  have hop : 8 ≤ op ∧ op ≤ 22 := by
    have : knR op ≠ -1 := fun q => hk (.inl q)
    unfold knR at this
    rw [if_neg (by omega), if_neg (by omega)] at this
    by_cases z : 8 ≤ op ∧ op ≤ 22
    · exact z
    · rw [if_neg z, if_neg e23, if_neg e25] at this; exact absurd rfl this
  have hc := kb2 hk hop
  have h0 := hi 0 (by omega) (by omega)
  have h1 := hi 1 (by omega) (by omega)
  unfold inP at h0 h1
  have e : vop xs op n k = vbin op (gi k 0) (gi k 1) := by
    unfold vop
    rw [if_neg e0, if_neg e24, if_neg e6, if_neg e7, if_neg e23, if_neg e25]
  rw [e]
  clear e hn hw hi hk hl
  generalize gi k 0 = a at *
  generalize gi k 1 = b at *
  by_cases e8 : op = 8
  · subst e8
    show (pg K 0).1 + (pg K 1).1 ≤ a + b ∧ a + b ≤ (pg K 0).2 + (pg K 1).2
    omega
  by_cases e9 : op = 9
  · subst e9
    show (pg K 0).1 - (pg K 1).2 ≤ a - b ∧ a - b ≤ (pg K 0).2 - (pg K 1).1
    omega
  by_cases e10 : op = 10
  · subst e10
    exact mul_cor h0.1 h0.2 h1.1 h1.2
  by_cases e11 : op = 11
  · subst e11
    have hd := dvF_in (x := a) (y := b)
    have hm : (a.natAbs : Int) ≤ mxI (mxI (pg K 0).1 (-(pg K 0).1)) (mxI (pg K 0).2 (-(pg K 0).2)) := by
      unfold mxI; (repeat' split) <;> omega
    show inP _ (dvF a b)
    by_cases q : 0 ≤ (pg K 0).1 ∧ 0 ≤ (pg K 1).1
    · rw [rul_11a q]
      have := hd.2 (by omega) (by omega)
      exact ⟨this, by show _ ≤ mxI _ _; omega⟩
    · rw [rul_11b q]
      exact ⟨by show -mxI _ _ ≤ _; omega, by show _ ≤ mxI _ _; omega⟩
  by_cases e12 : op = 12
  · subst e12
    obtain ⟨m1, m2, m3⟩ := mdF_in (x := a) (y := b)
    show (if (pg K 1).1 < 0 then mnI 0 ((pg K 1).1 + 1) else 0) ≤ mdF a b ∧ mdF a b ≤ (if 0 < (pg K 1).2 then mxI 0 ((pg K 1).2 - 1) else 0)
    unfold mnI mxI
    by_cases z1 : b = 0
    · have := m1 z1
      constructor <;> ((repeat' split) <;> omega)
    by_cases z2 : 0 < b
    · have := m2 z2
      constructor <;> ((repeat' split) <;> omega)
    · have := m3 (by omega)
      constructor <;> ((repeat' split) <;> omega)
  by_cases e21 : op = 21
  · subst e21
    show mnI (pg K 0).1 (pg K 1).1 ≤ mnI a b ∧ mnI a b ≤ mnI (pg K 0).2 (pg K 1).2
    unfold mnI
    constructor <;> ((repeat' split) <;> omega)
  by_cases e22 : op = 22
  · subst e22
    show mxI (pg K 0).1 (pg K 1).1 ≤ mxI a b ∧ mxI a b ≤ mxI (pg K 0).2 (pg K 1).2
    unfold mxI
    constructor <;> ((repeat' split) <;> omega)
  rw [rul_e (by omega)]
  show (0 : Int) ≤ vbin op a b ∧ vbin op a b ≤ 1
  unfold vbin
  rw [if_neg e8, if_neg e9, if_neg e10, if_neg e11, if_neg e12, if_neg e21]
  constructor <;> ((repeat' split) <;> omega)
mutual
theorem val_in (hx : inR vs xs) : ∀ {t : Tm}, fmd vs inp t → rgo vs t → inP (rg vs t) (val xs t)
  | .mk op n k, hf, hr => by
    refine vop_in (inp := inp) (k := valL xs k) (K := rgL vs k) hx (by rw [valL_len]; exact hf.1) hf.2.1 (by rw [valL_len, rgL_len]) (fun j a b => ?_) hr.2
    exact valL_in hx hf.2.2 hr.1 j a (by rw [valL_len] at b; exact b)
theorem valL_in (hx : inR vs xs) : ∀ {l : List Tm}, fmdL vs inp l → rgoL vs l → ∀ j : Int, 0 ≤ j → j < l.length → inP (pg (rgL vs l) j) (gi (valL xs l) j)
  | [], _, _, j, a, b => absurd b (by simp; omega)
  | t :: r, hf, hr, j, a, b => by
    have x := val_in hx hf.1 hr.1
    by_cases e : j = 0
    · subst e; exact x
    · have y := valL_in hx hf.2 hr.2 (j - 1) (by omega) (by simp at b; omega)
      show inP ((rg vs t :: rgL vs r).getD j.toNat (0, 0)) ((val xs t :: valL xs r).getD j.toNat 0)
      rw [show j.toNat = (j - 1).toNat + 1 by omega]
      exact y
end
/-- The value of a checked term is within the limit. -/
theorem val_bd (hx : inR vs xs) {t : Tm} (hf : fmd vs inp t) (hr : rgo vs t) : -1048576 ≤ val xs t ∧ val xs t ≤ 1048576 := by
  have a := val_in hx hf hr
  have b := ((rgo_eq t).1 hr).2
  unfold wiM at b
  unfold inP at a
  omega
end
end Go.Proofs.YtbchkopkgpfkgaaGreatDoor

namespace Go.Proofs.YtbchkopkgpfkgaaGreatDoor
open Go Go.Vc
/-- The values, the outputs and the time. -/
structure Mc where
  vals : List Int
  outs : List Int
  time : Int
def setV (F : Fl) (xs : List Int) (v n : Int) : List Int := xs.set v.toNat (hld n (vr F.vs v).lo (vr F.vs v).hi)
def stlS (t : Int) (s : Int × Bool) (b : Int) : Int × Bool := if t ≤ b ∧ (¬ s.2 = true ∨ b < s.1) then (b, true) else s
def stlF (t : Int) (bs : List Int) : Int × Bool := bs.foldl (stlS t) (t, false)
/-- The least bound that is not below a time, the time itself if there is none. -/
def stl (bs : List Int) (t : Int) : Int := (stlF t bs).1
theorem stl_take {t : Int} {bs : List Int} {i : Int} (h0 : 0 ≤ i) (h1 : i < bs.length) : stlF t (bs.take (i + 1).toNat) = stlS t (stlF t (bs.take i.toNat)) (gi bs i) := by
  rw [show (i + 1).toNat = i.toNat + 1 by omega, take_snoc (d := (0 : Int)) h0 h1]
  unfold stlF gi
  rw [List.foldl_append]; rfl
theorem stl_bd {t L : Int} (h : t ≤ L) : ∀ (bs : List Int) (s : Int × Bool), t ≤ s.1 → s.1 ≤ L → (∀ b ∈ bs, b ≤ L) → t ≤ (bs.foldl (stlS t) s).1 ∧ (bs.foldl (stlS t) s).1 ≤ L
  | [], s, h1, h2, _ => ⟨h1, h2⟩
  | b :: r, s, h1, h2, h3 => by
    have q := h3 b (List.mem_cons_self ..)
    have go : t ≤ (stlS t s b).1 ∧ (stlS t s b).1 ≤ L := by
      unfold stlS
      by_cases e : t ≤ b ∧ (¬ s.2 = true ∨ b < s.1)
      · rw [if_pos e]; exact ⟨e.1, q⟩
      · rw [if_neg e]; exact ⟨h1, h2⟩
    exact stl_bd h r _ go.1 go.2 fun x hx => h3 x (List.mem_cons_of_mem _ hx)
def loopF (f : Mc → Mc) (c : Int) (t : Tm) : Nat → Mc → Mc
  | 0, m => m
  | k + 1, m => if val m.vals t = 0 then ⟨m.vals, m.outs, m.time + c⟩ else loopF f c t k (f ⟨m.vals, m.outs, m.time + c⟩)
def stepM (F : Fl) (H : List Int) (dk v n : Int) (t : Tm) (bd : List Int) (fa fb : Mc → Mc) (m : Mc) : Mc :=
  if dk = 0 then ⟨setV F m.vals v (val m.vals t), m.outs, m.time⟩ else if dk = 1 then ⟨m.vals, m.outs ++ [val m.vals t], m.time⟩
  else if dk = 3 then (if val m.vals t ≠ 0 then fa m else fb m) else if dk = 5 then ⟨setV F m.vals v (gi H n), m.outs, m.time⟩ else if dk = 6 then ⟨m.vals, m.outs, stl bd m.time⟩ else m
mutual
def runS (F : Fl) (H : List Int) : St → Mc → Mc
  | .mk dk c v n t a b bd, m => if dk = 4 then loopF (runL F H a) c t n.toNat m else stepM F H dk v n t bd (runL F H a) (runL F H b) ⟨m.vals, m.outs, m.time + c⟩
def runL (F : Fl) (H : List Int) : List St → Mc → Mc
  | [], m => m
  | s :: r, m => runL F H r (runS F H s m)
end
theorem runS_eq {F : Fl} {H : List Int} (s : St) (m : Mc) : runS F H s m = if s.dk = 4 then loopF (runL F H s.thn) s.cost s.tm s.n.toNat m else stepM F H s.dk s.var s.n s.tm s.bds (runL F H s.thn) (runL F H s.els) ⟨m.vals, m.outs, m.time + s.cost⟩ := by cases s; rfl
/-- A state that can go on: a outputs more, b more time. -/
structure Rdy (F : Fl) (m : Mc) (a b : Int) : Prop where
  len : m.vals.length = F.vs.length
  inr : inR F.vs m.vals
  o1 : (m.outs.length : Int) + a ≤ 8
  t0 : 0 ≤ m.time
  t1 : m.time + b ≤ 67108864
  ob : ∀ x ∈ m.outs, -1048576 ≤ x ∧ x ≤ 1048576
theorem Rdy.le {F : Fl} {m : Mc} {a b a' b' : Int} (h : Rdy F m a b) (ha : a' ≤ a) (hb : b' ≤ b) : Rdy F m a' b' := ⟨h.len, h.inr, by have := h.o1; omega, h.t0, by have := h.t1; omega, h.ob⟩
theorem Rdy.tick {F : Fl} {m : Mc} {a b c : Int} (h : Rdy F m a (c + b)) (hc : 0 ≤ c) : Rdy F ⟨m.vals, m.outs, m.time + c⟩ a b := ⟨h.len, h.inr, h.o1, by have := h.t0; show 0 ≤ m.time + c; omega, by have := h.t1; show m.time + c + b ≤ _; omega, h.ob⟩
theorem hld_bd {n lo hi : Int} (h : lo ≤ hi) : lo ≤ hld n lo hi ∧ hld n lo hi ≤ hi := by unfold hld mnI mxI; (repeat' split) <;> omega
theorem setV_len (F : Fl) (xs : List Int) (v n : Int) : (setV F xs v n).length = xs.length := List.length_set ..
theorem setV_in {F : Fl} {xs : List Int} {v n : Int} (hV : VarsOk F.vs) (hl : xs.length = F.vs.length) (h : inR F.vs xs) (v0 : 0 ≤ v) (v1 : v < F.vs.length) : inR F.vs (setV F xs v n) := fun i a b => by
  have ho := hV.ord _ (vr_in v0 v1)
  unfold setV gi
  by_cases e : i = v
  · subst e
    rw [List.getD_eq_getElem?_getD, List.getElem?_set_self (by omega)]
    exact hld_bd ho.1
  · have := h i a b
    unfold gi at this
    rw [List.getD_eq_getElem?_getD] at this
    rw [List.getD_eq_getElem?_getD, List.getElem?_set_ne (by omega)]
    exact this
theorem Rdy.set {F : Fl} {m : Mc} {a b v n : Int} (h : Rdy F m a b) (hV : VarsOk F.vs) (v0 : 0 ≤ v) (v1 : v < F.vs.length) : Rdy F ⟨setV F m.vals v n, m.outs, m.time⟩ a b :=
  ⟨by show (setV F m.vals v n).length = _; rw [setV_len]; exact h.len, setV_in hV h.len h.inr v0 v1, h.o1, h.t0, h.t1, h.ob⟩
theorem Rdy.out {F : Fl} {m : Mc} {a b x : Int} (h : Rdy F m (1 + a) b) (hx : -1048576 ≤ x ∧ x ≤ 1048576) : Rdy F ⟨m.vals, m.outs ++ [x], m.time⟩ a b :=
  ⟨h.len, h.inr, by have := h.o1; show ((m.outs ++ [x]).length : Int) + a ≤ 8; rw [List.length_append]; simp only [List.length_singleton]; omega, h.t0, h.t1, fun y hy => (List.mem_append.1 hy).elim (h.ob y) fun q => by rw [List.mem_singleton.1 q]; exact hx⟩
theorem rsg_le {l : List Int} (h : ∀ i : Int, 1 ≤ i → i < l.length → ¬ gi l i ≤ gi l (i - 1)) : ∀ (d : Nat) (i : Int), 0 ≤ i → i + d < l.length → gi l i ≤ gi l (i + d)
  | 0, i, _, _ => by rw [show i + ((0 : Nat) : Int) = i by omega]; omega
  | d + 1, i, h0, h1 => by
    have a := rsg_le h d i h0 (by omega)
    have b := h (i + d + 1) (by omega) (by omega)
    rw [show i + ((d + 1 : Nat) : Int) = i + d + 1 by omega]
    rw [show i + (d : Int) + 1 - 1 = i + d by omega] at b
    omega
theorem bds_le {s : St} (h : rsg s.bds) (hb : ¬ bdBad s) : ∀ b ∈ s.bds, b ≤ 67108864 := fun b hm => by
  obtain ⟨i, hi, e⟩ := List.mem_iff_getElem.1 hm
  have a := rsg_le h.2 (s.bds.length - 1 - i) i (by omega) (by omega)
  have e1 : gi s.bds (i : Int) = b := by unfold gi; rw [List.getD_eq_getElem?_getD, Int.toNat_natCast, List.getElem?_eq_getElem hi, ← e]; rfl
  have c : ¬ 67108864 < gi s.bds ((s.bds.length : Int) - 1) := fun q => hb ⟨by omega, q⟩
  rw [e1, show (i : Int) + ((s.bds.length - 1 - i : Nat) : Int) = (s.bds.length : Int) - 1 by omega] at a
  omega
theorem loop_rdy {F : Fl} {f : Mc → Mc} {c : Int} {t : Tm} {o u : Int} (hc : 0 ≤ c) (ho : 0 ≤ o) (hu : 0 ≤ u) (hf : ∀ (a b : Int) (m : Mc), 0 ≤ a → 0 ≤ b → Rdy F m (o + a) (u + b) → Rdy F (f m) a b) :
    ∀ (n : Nat) (a b : Int) (m : Mc), 0 ≤ a → 0 ≤ b → Rdy F m (n * o + a) (n * (c + u) + b) → Rdy F (loopF f c t n m) a b
  | 0, a, b, m, _, _, h => h.le (by omega) (by omega)
  | n + 1, a, b, m, ha, hb, h => by
    have e1 : ((n + 1 : Nat) : Int) * o = n * o + o := by rw [show ((n + 1 : Nat) : Int) = n + 1 by omega, Int.add_mul, Int.one_mul]
    have e2 : ((n + 1 : Nat) : Int) * (c + u) = n * (c + u) + (c + u) := by rw [show ((n + 1 : Nat) : Int) = n + 1 by omega, Int.add_mul, Int.one_mul]
    have p1 := Int.mul_nonneg (show (0 : Int) ≤ n by omega) ho
    have p2 := Int.mul_nonneg (show (0 : Int) ≤ n by omega) (show 0 ≤ c + u by omega)
    have h2 : Rdy F ⟨m.vals, m.outs, m.time + c⟩ (o + (n * o + a)) (u + (n * (c + u) + b)) := (h.le (a' := o + (n * o + a)) (b' := c + (u + (n * (c + u) + b))) (by omega) (by omega)).tick hc
    unfold loopF
    by_cases q : val m.vals t = 0
    · rw [if_pos q]; exact h2.le (by omega) (by omega)
    · rw [if_neg q]; exact loop_rdy hc ho hu hf n a b _ ha hb (hf _ _ _ (by omega) (by omega) h2)
mutual
theorem runS_rdy {F : Fl} {H : List Int} (hV : VarsOk F.vs) {last : Prop} : ∀ {s : St}, StOk F last s → ∀ (a b : Int) (m : Mc), (last → b = 0) → 0 ≤ a → 0 ≤ b → Rdy F m (s.uO + a) (s.uT + b) → Rdy F (runS F H s m) a b
  | .mk dk c v n t x y bd, h, a, b, m, hl, ha, hb, hr => by
    have hnn := h.nn
    have hn := (nn_eq _).1 hnn
    obtain ⟨n1, n2, n3, n4⟩ := hn
    have n1 : 0 ≤ c := n1
    have n2 : 0 ≤ n := n2
    have ux := ubs_nn x n3
    have uy := ubs_nn y n4
    have ok1 : StOk1 F last (.mk dk c v n t x y bd) := h.1
    have okx : StsOk F False x := h.2.1
    have oky : StsOk F False y := h.2.2
    have uo : (St.mk dk c v n t x y bd).uO = if dk = 1 then 1 else if dk = 4 then n * ubO x else mxI (ubO x) (ubO y) := uO_eq _
    have ut : (St.mk dk c v n t x y bd).uT = if dk = 4 then n * (c + ubT x) else c + mxI (ubT x) (ubT y) := uT_eq _
    rw [uo, ut] at hr
    show Rdy F (if dk = 4 then loopF (runL F H x) c t n.toNat m else stepM F H dk v n t bd (runL F H x) (runL F H y) ⟨m.vals, m.outs, m.time + c⟩) a b
    by_cases e4 : dk = 4
    · rw [if_pos e4]
      rw [if_neg (by omega), if_pos e4, if_pos e4] at hr
      have en : ((n.toNat : Nat) : Int) = n := by omega
      exact loop_rdy n1 ux.2.1 ux.2.2 (fun a b m ha hb h => runL_rdy hV okx a b m (fun q => q.elim) ha hb h) n.toNat a b m ha hb (by rw [en]; exact hr)
    rw [if_neg e4]
    rw [if_neg e4, if_neg e4] at hr
    have hx : 0 ≤ mxI (ubT x) (ubT y) ∧ ubT x ≤ mxI (ubT x) (ubT y) ∧ ubT y ≤ mxI (ubT x) (ubT y) := by unfold mxI; split <;> omega
    have hw : ∀ w, Rdy F m w (c + mxI (ubT x) (ubT y) + b) → Rdy F ⟨m.vals, m.outs, m.time + c⟩ w (mxI (ubT x) (ubT y) + b) := fun w h => (h.le (b' := c + (mxI (ubT x) (ubT y) + b)) (Int.le_refl _) (by omega)).tick n1
    have hr := hw _ hr
    unfold stepM
    by_cases e0 : dk = 0
    · rw [if_pos e0]
      rw [if_neg (by omega)] at hr
      have sh := (shp_0 (s := .mk dk c v n t x y bd) e0).1 ok1.shp
      have z : 0 ≤ mxI (ubO x) (ubO y) := by unfold mxI; split <;> omega
      exact (hr.le (by omega) (by omega)).set hV sh.1.1.2.1.1 sh.1.1.2.1.2
    rw [if_neg e0]
    by_cases e1 : dk = 1
    · rw [if_pos e1]
      rw [if_pos e1] at hr
      exact (hr.le (b' := b) (Int.le_refl _) (by omega)).out (val_bd (xs := m.vals) hr.inr ok1.ct.1 ok1.ct.2)
    rw [if_neg e1]
    rw [if_neg e1] at hr
    have hy : 0 ≤ mxI (ubO x) (ubO y) ∧ ubO x ≤ mxI (ubO x) (ubO y) ∧ ubO y ≤ mxI (ubO x) (ubO y) := by unfold mxI; split <;> omega
    by_cases e3 : dk = 3
    · rw [if_pos e3]
      split
      · exact runL_rdy hV okx a b _ (fun q => q.elim) ha hb (hr.le (by omega) (by omega))
      · exact runL_rdy hV oky a b _ (fun q => q.elim) ha hb (hr.le (by omega) (by omega))
    rw [if_neg e3]
    by_cases e5 : dk = 5
    · rw [if_pos e5]
      have sh := (shp_5 (s := .mk dk c v n t x y bd) e5).1 ok1.shp
      exact (hr.le (by omega) (by omega)).set hV sh.1.1.1.1.2.1.1 sh.1.1.1.1.2.1.2
    rw [if_neg e5]
    by_cases e6 : dk = 6
    · rw [if_pos e6]
      have sh := (shp_6 (s := .mk dk c v n t x y bd) e6).1 ok1.shp
      have b0 := hl sh.1.1.1.1.2
      have hr := hr.le (a' := a) (b' := 0) (by omega) (by omega)
      have q := stl_bd (t := m.time + c) (L := 67108864) (by have := hr.t1; have e : (Mc.mk m.vals m.outs (m.time + c)).time = m.time + c := rfl; omega) bd (m.time + c, false) (Int.le_refl _) (by have := hr.t1; have e : (Mc.mk m.vals m.outs (m.time + c)).time = m.time + c := rfl; show m.time + c ≤ _; omega) (bds_le (s := .mk dk c v n t x y bd) sh.2 ok1.bd)
      have t0 : 0 ≤ m.time + c := hr.t0
      refine ⟨hr.len, hr.inr, hr.o1, ?_, ?_, hr.ob⟩
      · show 0 ≤ (stlF (m.time + c) bd).1; unfold stlF; omega
      · show (stlF (m.time + c) bd).1 + b ≤ _; unfold stlF; omega
    rw [if_neg e6]
    exact hr.le (by omega) (by omega)
theorem runL_rdy {F : Fl} {H : List Int} (hV : VarsOk F.vs) {top : Prop} : ∀ {l : List St}, StsOk F top l → ∀ (a b : Int) (m : Mc), (top → b = 0) → 0 ≤ a → 0 ≤ b → Rdy F m (ubO l + a) (ubT l + b) → Rdy F (runL F H l m) a b
  | [], _, a, b, m, _, _, _, hr => hr.le (by show a ≤ 0 + a; omega) (by show b ≤ 0 + b; omega)
  | s :: r, h, a, b, m, ht, ha, hb, hr => by
    have u := ubs_nn r (StsOk.nns h.2)
    have e1 : ubO (s :: r) = s.uO + ubO r := rfl
    have e2 : ubT (s :: r) = s.uT + ubT r := rfl
    rw [e1, e2] at hr
    refine runL_rdy hV h.2 a b _ ht ha hb (runS_rdy hV h.1 (ubO r + a) (ubT r + b) m (fun q => ?_) (by omega) (by omega) (hr.le (by omega) (by omega)))
    obtain ⟨q1, q2⟩ := q
    subst q2
    have := ht q1
    show 0 + b = 0
    omega
end
theorem StsOk_drop {F : Fl} {top : Prop} : ∀ {l : List St} (n : Nat), StsOk F top l → StsOk F top (l.drop n)
  | l, 0, h => by rw [List.drop_zero]; exact h
  | [], n + 1, _ => by rw [List.drop_nil]; trivial
  | s :: r, n + 1, h => StsOk_drop n h.2
section
variable {F : Fl} {H : List Int} {top : Prop} {l : List St} {i : Int} {m : Mc}
theorem run_here (hO : StsOk F top l) (i0 : 0 ≤ i) (i1 : i < l.length) (hr : Rdy F m (ubO (l.drop i.toNat)) (ubT (l.drop i.toNat))) : Rdy F m (st l i).uO (st l i).uT := by
  have u := ubs_nn _ (StsOk_drop (i + 1).toNat hO).nns
  rw [st_drop i0 i1] at hr
  have e1 : ubO (st l i :: l.drop (i + 1).toNat) = (st l i).uO + ubO (l.drop (i + 1).toNat) := rfl
  have e2 : ubT (st l i :: l.drop (i + 1).toNat) = (st l i).uT + ubT (l.drop (i + 1).toNat) := rfl
  exact hr.le (by omega) (by omega)
theorem run_next (hV : VarsOk F.vs) (hO : StsOk F top l) (i0 : 0 ≤ i) (i1 : i < l.length) (hr : Rdy F m (ubO (l.drop i.toNat)) (ubT (l.drop i.toNat))) :
    runL F H (l.drop i.toNat) m = runL F H (l.drop (i + 1).toNat) (runS F H (st l i) m) ∧ Rdy F (runS F H (st l i) m) (ubO (l.drop (i + 1).toNat)) (ubT (l.drop (i + 1).toNat)) := by
  have hd := StsOk_drop i.toNat hO
  rw [st_drop i0 i1] at hr hd ⊢
  have u := ubs_nn _ (StsOk.nns hd.2)
  refine ⟨rfl, runS_rdy hV hd.1 _ _ _ (fun q => ?_) u.2.1 u.2.2 hr⟩
  rw [q.2]; rfl
end
section
variable {F : Fl} {H : List Int} {s : St} {m : Mc}
theorem runS_4 (h : s.dk = 4) : runS F H s m = loopF (runL F H s.thn) s.cost s.tm s.n.toNat m := by rw [runS_eq, if_pos h]
theorem runS_0 (h : s.dk = 0) : runS F H s m = ⟨setV F m.vals s.var (val m.vals s.tm), m.outs, m.time + s.cost⟩ := by rw [runS_eq, if_neg (by omega)]; unfold stepM; rw [if_pos h]
theorem runS_1 (h : s.dk = 1) : runS F H s m = ⟨m.vals, m.outs ++ [val m.vals s.tm], m.time + s.cost⟩ := by rw [runS_eq, if_neg (by omega)]; unfold stepM; rw [if_neg (by omega), if_pos h]
theorem runS_3a (h : s.dk = 3) (q : val m.vals s.tm ≠ 0) : runS F H s m = runL F H s.thn ⟨m.vals, m.outs, m.time + s.cost⟩ := by rw [runS_eq, if_neg (by omega)]; unfold stepM; rw [if_neg (by omega), if_neg (by omega), if_pos h, if_pos q]
theorem runS_3b (h : s.dk = 3) (q : ¬ val m.vals s.tm ≠ 0) : runS F H s m = runL F H s.els ⟨m.vals, m.outs, m.time + s.cost⟩ := by rw [runS_eq, if_neg (by omega)]; unfold stepM; rw [if_neg (by omega), if_neg (by omega), if_pos h, if_neg q]
theorem runS_5 (h : s.dk = 5) : runS F H s m = ⟨setV F m.vals s.var (gi H s.n), m.outs, m.time + s.cost⟩ := by rw [runS_eq, if_neg (by omega)]; unfold stepM; rw [if_neg (by omega), if_neg (by omega), if_neg (by omega), if_pos h]
theorem runS_6 (h : s.dk = 6) : runS F H s m = ⟨m.vals, m.outs, stl s.bds (m.time + s.cost)⟩ := by rw [runS_eq, if_neg (by omega)]; unfold stepM; rw [if_neg (by omega), if_neg (by omega), if_neg (by omega), if_neg (by omega), if_pos h]
theorem runS_e (h : ¬ (s.dk = 4 ∨ s.dk = 0 ∨ s.dk = 1 ∨ s.dk = 3 ∨ s.dk = 5 ∨ s.dk = 6)) : runS F H s m = ⟨m.vals, m.outs, m.time + s.cost⟩ := by
  rw [runS_eq, if_neg (by omega)]; unfold stepM; rw [if_neg (by omega), if_neg (by omega), if_neg (by omega), if_neg (by omega), if_neg (by omega)]
end
section
variable {F : Fl} {H : List Int} {s : St} {i : Int} {m : Mc}
theorem loop_0 {f : Mc → Mc} {c : Int} {t : Tm} {n : Nat} (h : 0 < n) (q : val m.vals t = 0) : loopF f c t n m = ⟨m.vals, m.outs, m.time + c⟩ := by
  obtain ⟨k, rfl⟩ : ∃ k, n = k + 1 := ⟨n - 1, by omega⟩
  exact if_pos q
theorem loop_s {f : Mc → Mc} {c : Int} {t : Tm} {n : Nat} (h : 0 < n) (q : ¬ val m.vals t = 0) : loopF f c t n m = loopF f c t (n - 1) (f ⟨m.vals, m.outs, m.time + c⟩) := by
  obtain ⟨k, rfl⟩ : ∃ k, n = k + 1 := ⟨n - 1, by omega⟩
  exact if_neg q
theorem round_rdy (hV : VarsOk F.vs) {last : Prop} (hs : StOk F last s) (h0 : 0 ≤ i) (h1 : i < s.n) (hr : Rdy F m ((s.n - i) * ubO s.thn) ((s.n - i) * (s.cost + ubT s.thn))) :
    Rdy F ⟨m.vals, m.outs, m.time + s.cost⟩ (ubO s.thn) (ubT s.thn) ∧ Rdy F (runL F H s.thn ⟨m.vals, m.outs, m.time + s.cost⟩) ((s.n - (i + 1)) * ubO s.thn) ((s.n - (i + 1)) * (s.cost + ubT s.thn)) := by
  have hn := (nn_eq _).1 hs.nn
  obtain ⟨n1, n2, n3, n4⟩ := hn
  have u := ubs_nn _ n3
  have e1 : (s.n - i) * ubO s.thn = (s.n - (i + 1)) * ubO s.thn + ubO s.thn := by rw [show s.n - i = s.n - (i + 1) + 1 by omega, Int.add_mul, Int.one_mul]
  have e2 : (s.n - i) * (s.cost + ubT s.thn) = (s.n - (i + 1)) * (s.cost + ubT s.thn) + (s.cost + ubT s.thn) := by rw [show s.n - i = s.n - (i + 1) + 1 by omega, Int.add_mul, Int.one_mul]
  have p1 := Int.mul_nonneg (show 0 ≤ s.n - (i + 1) by omega) u.2.1
  have p2 := Int.mul_nonneg (show 0 ≤ s.n - (i + 1) by omega) (show 0 ≤ s.cost + ubT s.thn by omega)
  have h2 : Rdy F ⟨m.vals, m.outs, m.time + s.cost⟩ (ubO s.thn + (s.n - (i + 1)) * ubO s.thn) (ubT s.thn + (s.n - (i + 1)) * (s.cost + ubT s.thn)) := (hr.le (b' := s.cost + (ubT s.thn + (s.n - (i + 1)) * (s.cost + ubT s.thn))) (by omega) (by omega)).tick n1
  exact ⟨h2.le (by omega) (by omega), runL_rdy hV (StOk_eq.1 hs).2.1 _ _ _ (fun q => q.elim) p1 p2 h2⟩
end
def pck (k : Int) (A B C : List Int) : List Int := if k = 1 then A else if k = 2 then B else C
/-- The values of the variables at the start. -/
def iniE (vs : List Vr) (A B C : List Int) (i : Int) : Int := if (vr vs i).kd = 0 then (vr vs i).ini else gi (pck (vr vs i).kd A B C) ((vfl (vs.take i.toNat) (vr vs i).kd).length : Int)
def iniL (vs : List Vr) (A B C : List Int) : List Int := (List.range vs.length).map fun i : Nat => iniE vs A B C i
/-- The values of the hatches. -/
def hatL (F : Fl) (xs : List Int) : List Int := F.hs.map fun h => hld (val xs h.tm) h.lo h.hi
/-- The observation of a run. -/
def obsF (F : Fl) (A B C : List Int) : Mc := runL F (hatL F (iniL F.vs A B C)) F.bd ⟨iniL F.vs A B C, [], 0⟩
/-- What an observer sees of it. -/
def seenT (timed : Bool) (t : Int) : Int := if timed = true then t else 0
end Go.Proofs.YtbchkopkgpfkgaaGreatDoor

namespace Go.Proofs.YtbchkopkgpfkgaaGreatDoor
open Go Go.Vc
theorem fl_len {f : Nat → List Value} {s : Nat} (hs : ∀ i, (f i).length = s) : ∀ n, ((List.range n).flatMap f).length = n * s
  | 0 => by simp
  | n + 1 => by rw [List.range_succ, List.flatMap_append, List.length_append, fl_len hs n]; simp [hs]; rw [Nat.add_mul, Nat.one_mul]
theorem fl_take {f g : Nat → List Value} {s m n : Nat} (hs : ∀ i, (f i).length = s) (h : m ≤ n) (hg : ∀ i, i < m → g i = f i) : (List.range m).flatMap g = ((List.range n).flatMap f).take (m * s) := by
  obtain ⟨d, rfl⟩ : ∃ d, n = m + d := ⟨n - m, by omega⟩
  rw [List.range_add, List.flatMap_append, List.take_left' (fl_len hs m), List.flatMap_def, List.flatMap_def]
  congr 1
  exact List.map_congr_left fun i hi => hg i (List.mem_range.1 hi)
theorem getD_take {α : Type} {l : List α} {d : α} {m i : Nat} (h : i < m) : (l.take m).getD i d = l.getD i d := by
  rw [List.getD_eq_getElem?_getD, List.getD_eq_getElem?_getD, List.getElem?_take, if_pos h]
theorem tk_lt {α : Type} {l : List α} {m : Nat} {x : Int} (h : x < (l.take m).length) : x < m := by rw [List.length_take] at h; omega
theorem vr_tk {l : List Vr} {m : Nat} {i : Int} (h0 : 0 ≤ i) (h : i < m) : vr (l.take m) i = vr l i := getD_take (by omega)
theorem ht_tk {l : List Ht} {m : Nat} {i : Int} (h0 : 0 ≤ i) (h : i < m) : ht (l.take m) i = ht l i := getD_take (by omega)
theorem Vrs.take {H : HV} {v : Value} {l : List Vr} (h : Vrs H v l) {m : Nat} (hm : m ≤ l.length) : Vrs H (takeS v m) (l.take m) := by
  have := SlS.take h hm
  unfold Vrs
  rw [List.length_take, Nat.min_eq_left hm]
  unfold vrcs
  rw [List.length_take, Nat.min_eq_left hm, fl_take (f := vrc l) (s := 5) (fun _ => rfl) hm (fun i hi => by unfold vrc; rw [vr_tk (by omega) (by omega)])]
  exact this
theorem HtsK.take {H : HV} {v : Value} {l : List Ht} {kv : List Value} (h : HtsK H v l kv) {m : Nat} (hm : m ≤ l.length) : HtsK H (takeS v m) (l.take m) kv := by
  have := SlS.take h.sl hm
  refine ⟨?_, fun i a b => ?_⟩
  · rw [List.length_take, Nat.min_eq_left hm]
    unfold htcs
    rw [List.length_take, Nat.min_eq_left hm, fl_take (f := htc kv l) (s := 6) (fun _ => rfl) hm (fun i hi => by unfold htc; rw [ht_tk (by omega) (by omega)])]
    exact this
  · rw [List.length_take] at b
    rw [ht_tk a (by omega)]
    exact h.hk i a (by omega)
theorem HtsK.mono {H H' : HV} {v : Value} {l : List Ht} {kv : List Value} (h : HtsK H v l kv) (s : Vc.Sub H H') : HtsK H' v l kv := ⟨h.sl.mono s, fun i a b => (h.hk i a b).mono s⟩
theorem kd_in {k : Int} (h : ¬ kdBad k) : k = 0 ∨ k = 1 ∨ k = 2 ∨ k = 3 := by unfold kdBad at h; omega
theorem ini_in {v : Vr} (h : ¬ iniBad v) : (v.kd = 0 → v.lo ≤ v.ini ∧ v.ini ≤ v.hi) ∧ (v.kd ≠ 0 → v.ini = 0) := by unfold iniBad at h; omega
theorem g123 {j : Int} (h0 : 0 ≤ j) (h1 : j < 3) : gi [1, 2, 3] j = 1 ∨ gi [1, 2, 3] j = 2 ∨ gi [1, 2, 3] j = 3 := by
  have : j = 0 ∨ j = 1 ∨ j = 2 := by omega
  rcases this with rfl | rfl | rfl
  · exact .inl rfl
  · exact .inr (.inl rfl)
  · exact .inr (.inr rfl)
end Go.Proofs.YtbchkopkgpfkgaaGreatDoor

namespace Go.Proofs.YtbchkopkgpfkgaaGreatDoor
open Go Go.Vc
section
variable {xs : List Int} {t : Tm}
theorem val_0 (h : t.op = 0) : val xs t = t.n := by rw [val_eq]; exact if_pos h
theorem val_24 (h : t.op = 24) : val xs t = gi xs t.n := by rw [val_eq]; unfold vop; rw [if_neg (by omega), if_pos h]
theorem val_6 (h : t.op = 6) (k : 1 ≤ (t.kids.length : Int)) : val xs t = -(val xs (tm t.kids 0)) := by
  rw [val_eq]; unfold vop; rw [if_neg (by omega), if_neg (by omega), if_pos h, valL_gi (by omega) (by omega)]
theorem val_7 (h : t.op = 7) (k : 1 ≤ (t.kids.length : Int)) : val xs t = if val xs (tm t.kids 0) = 0 then 1 else 0 := by
  rw [val_eq]; unfold vop; rw [if_neg (by omega), if_neg (by omega), if_neg (by omega), if_pos h, valL_gi (by omega) (by omega)]
theorem val_23a (h : t.op = 23) (k : 3 ≤ (t.kids.length : Int)) (q : val xs (tm t.kids 0) ≠ 0) : val xs t = val xs (tm t.kids 1) := by
  rw [val_eq]; unfold vop
  rw [if_neg (by omega), if_neg (by omega), if_neg (by omega), if_neg (by omega), if_pos h, valL_gi (by omega) (by omega), valL_gi (by omega) (by omega), if_pos q]
theorem val_23b (h : t.op = 23) (k : 3 ≤ (t.kids.length : Int)) (q : ¬ val xs (tm t.kids 0) ≠ 0) : val xs t = val xs (tm t.kids 2) := by
  rw [val_eq]; unfold vop
  rw [if_neg (by omega), if_neg (by omega), if_neg (by omega), if_neg (by omega), if_pos h, valL_gi (by omega) (by omega), if_neg q, valL_gi (by omega) (by omega)]
theorem hld_in {n m : Int} (h : 0 ≤ m) : 0 ≤ hld n 0 m ∧ hld n 0 m ≤ m := hld_bd h
theorem val_25 (h : t.op = 25) (k : 2 ≤ (t.kids.length : Int)) : val xs t = val xs (tm t.kids (1 + hld (val xs (tm t.kids 0)) 0 ((t.kids.length : Int) - 2))) := by
  have hb := hld_in (n := val xs (tm t.kids 0)) (show 0 ≤ (t.kids.length : Int) - 2 by omega)
  rw [val_eq]; unfold vop
  rw [if_neg (by omega), if_neg (by omega), if_neg (by omega), if_neg (by omega), if_neg (by omega), if_pos h, valL_gi (i := 0) (by omega) (by omega), valL_len, valL_gi (by omega) (by omega)]
theorem val_bin (h : ¬ (t.op = 0 ∨ t.op = 24 ∨ t.op = 6 ∨ t.op = 7 ∨ t.op = 23 ∨ t.op = 25)) (k : 2 ≤ (t.kids.length : Int)) : val xs t = vbin t.op (val xs (tm t.kids 0)) (val xs (tm t.kids 1)) := by
  rw [val_eq]; unfold vop
  rw [if_neg (by omega), if_neg (by omega), if_neg (by omega), if_neg (by omega), if_neg (by omega), if_neg (by omega), valL_gi (by omega) (by omega), valL_gi (by omega) (by omega)]
end
theorem op_in {op k : Int} (h : ¬ kBad op k) (e : ¬ (op = 0 ∨ op = 24 ∨ op = 6 ∨ op = 7 ∨ op = 23 ∨ op = 25)) : k = 2 := by
  unfold kBad knR at h
  rw [if_neg (by omega), if_neg (by omega)] at h
  by_cases z : 8 ≤ op ∧ op ≤ 22
  · rw [if_pos z] at h; omega
  · rw [if_neg z, if_neg (by omega), if_neg (by omega)] at h; omega
theorem md_bd {a b : Int} (h1 : -1048576 ≤ a ∧ a ≤ 1048576) (h2 : -1048576 ≤ b ∧ b ≤ 1048576) : (-1048576 ≤ dvF a b ∧ dvF a b ≤ 1048576) ∧ (-1099511627776 ≤ b * dvF a b ∧ b * dvF a b ≤ 1099511627776) := by
  have h := (dvF_in (x := a) (y := b)).1
  have q : -1048576 ≤ dvF a b ∧ dvF a b ≤ 1048576 := by omega
  exact ⟨q, mul20 h2.1 h2.2 q.1 q.2⟩
section
variable {t : Int} {bs : List Int} {i : Int}
theorem st_y (h0 : 0 ≤ i) (h1 : i < bs.length) (h : t ≤ gi bs i ∧ (¬ (stlF t (bs.take i.toNat)).2 = true ∨ gi bs i < (stlF t (bs.take i.toNat)).1)) : stlF t (bs.take (i + 1).toNat) = (gi bs i, true) := by
  rw [stl_take h0 h1]; exact if_pos h
theorem st_n (h0 : 0 ≤ i) (h1 : i < bs.length) (h : ¬ (t ≤ gi bs i ∧ (¬ (stlF t (bs.take i.toNat)).2 = true ∨ gi bs i < (stlF t (bs.take i.toNat)).1))) : stlF t (bs.take (i + 1).toNat) = stlF t (bs.take i.toNat) := by
  rw [stl_take h0 h1]; exact if_neg h
end
section
variable {F : Fl} {s : St} {m : Mc} {last : Prop}
theorem if_rdy (hs : StOk F last s) (e : s.dk = 3) (hr : Rdy F m s.uO s.uT) : Rdy F ⟨m.vals, m.outs, m.time + s.cost⟩ (ubO s.thn) (ubT s.thn) ∧ Rdy F ⟨m.vals, m.outs, m.time + s.cost⟩ (ubO s.els) (ubT s.els) := by
  obtain ⟨h1, h2, h3, h4⟩ := (nn_eq s).1 hs.nn
  have u := ubs_nn _ h3
  have w := ubs_nn _ h4
  rw [uO_eq, uT_eq, if_neg (by omega), if_neg (by omega), if_neg (by omega)] at hr
  have a : ubO s.thn ≤ mxI (ubO s.thn) (ubO s.els) ∧ ubO s.els ≤ mxI (ubO s.thn) (ubO s.els) := by unfold mxI; split <;> omega
  have b : ubT s.thn ≤ mxI (ubT s.thn) (ubT s.els) ∧ ubT s.els ≤ mxI (ubT s.thn) (ubT s.els) := by unfold mxI; split <;> omega
  have h := hr.tick h1
  exact ⟨h.le (by omega) (by omega), h.le (by omega) (by omega)⟩
theorem out_rdy (e : s.dk = 1) (hr : Rdy F m s.uO s.uT) : (m.outs.length : Int) < 8 := by
  have h := hr.o1
  rw [uO_eq, if_pos e] at h
  omega
theorem loop_rdy0 (e : s.dk = 4) (hr : Rdy F m s.uO s.uT) : Rdy F m ((s.n - 0) * ubO s.thn) ((s.n - 0) * (s.cost + ubT s.thn)) := by
  rw [uO_eq, uT_eq, if_neg (by omega), if_pos e, if_pos e] at hr
  rw [show s.n - 0 = s.n by omega]
  exact hr
theorem run_end {H : List Int} {l : List St} {i : Int} (h : (l.length : Int) ≤ i) : runL F H (l.drop i.toNat) m = m := by rw [List.drop_eq_nil_of_le (by omega)]; rfl
theorem loop_end {f : Mc → Mc} {c : Int} {t : Tm} {n i : Int} (h : n ≤ i) : loopF f c t (n - i).toNat m = m := by rw [show (n - i).toNat = 0 by omega]; rfl
theorem loop_st {f : Mc → Mc} {c : Int} {t : Tm} {n i : Int} (h : i < n) (q : ¬ val m.vals t = 0) : loopF f c t (n - i).toNat m = loopF f c t (n - (i + 1)).toNat (f ⟨m.vals, m.outs, m.time + c⟩) := by
  rw [loop_s (by omega) q, show (n - i).toNat - 1 = (n - (i + 1)).toNat by omega]
end
end Go.Proofs.YtbchkopkgpfkgaaGreatDoor

namespace Go.Vc
open Go Go.RowKit
theorem Ints.toS {k : IntKind} {H : HV} {v : Value} {xs : List Int} (h : Ints k H v xs) : SlS 1 H v xs.length (xs.map (Value.int k)) := by
  obtain ⟨a, cap, h1, h2, h3, h4⟩ := h
  rw [List.length_map] at h1 h2 h4
  refine ⟨a, cap, h1, h2, h3, by rw [List.length_map, Nat.mul_one], fun hn => ?_⟩
  obtain ⟨b, off, cs, T, fz, e1, e2, e3⟩ := h4 (fun e => hn (by simpa using congrArg List.length e))
  exact ⟨b, off, cs, T, fz, e1, e2, fun i hi => e3 i (by omega)⟩
theorem SlS.toI {k : IntKind} {H : HV} {v : Value} {xs : List Int} {n : Nat} (h : SlS 1 H v n (xs.map (Value.int k))) : Ints k H v xs := by
  obtain ⟨a, cap, h1, h2, h3, h4, h5⟩ := h
  rw [List.length_map, Nat.mul_one] at h4
  subst h4
  refine ⟨a, cap, by rw [List.length_map]; exact h1, by rw [List.length_map]; exact h2, h3, fun hn => ?_⟩
  obtain ⟨b, off, cs, T, fz, e1, e2, e3⟩ := h5 (fun e => hn (by rw [List.length_eq_zero_iff.1 e]; rfl))
  exact ⟨b, off, cs, T, fz, e1, e2, fun i hi => e3 i (by rw [List.length_map] at hi; omega)⟩
theorem Ints.dropR {k : IntKind} {H : HV} {v : Value} {xs : List Int} (h : Ints k H v xs) {m : Nat} (hm : m ≤ xs.length) : Ints k H (Go.Vc.dropR v m 1) (xs.drop m) := by
  have := SlS.dropR h.toS hm
  rw [Nat.mul_one, ← List.map_drop] at this
  exact this.toI
section
variable {P : Program} {C : Cx} {env : Env} {V : HV} {σ : Res} {x y z : Operand} {T E t : TypeId} {dst : Option Nat} {pos : String} {af : Array Edge} {g : Option (Nat × Bool)}
theorem qv_iaae {n s b off r : Nat} {i j : Int} {kk : IntKind} (hu : P.underlying T = some (.array n E)) (hS : SizeIs P E s) (hx : ev env x = .pointer (some ⟨b, off, none⟩)) (hy : ev env y = .int kk j) (e : j = i) (h0 : 0 ≤ i) (h1 : i < n) (hr : off + i.toNat * s = r) :
    QV P C ⟨dst, .indexAddr T x y, t, pos, af, g⟩ env V σ (.pointer (some ⟨b, r, none⟩)) := by subst e; exact qv_iaa hu hS hx hy h0 h1 hr
theorem idx_one {cs : List Value} {i : Int} (h0 : 0 ≤ i) (h1 : i < cs.length) : cs[i.toNat]? = some (gv cs i) := by
  have hlt : i.toNat < cs.length := by omega
  simp [gv, List.getElem?_eq_getElem hlt]
end
end Go.Vc
namespace Go.Proofs.YtbchkopkgpfkgaaGreatDoor
open Go Go.Vc
/-- How many of the first i variables are of a kind. -/
def cn (vs : List Vr) (k i : Int) : Nat := (vfl (vs.take i.toNat) k).length
section
variable {vs : List Vr} {k i : Int}
theorem cn_y (h0 : 0 ≤ i) (h1 : i < vs.length) (h : (vr vs i).kd = k) : cn vs k (i + 1) = cn vs k i + 1 := by unfold cn; rw [vfl_y h0 h1 h, List.length_append]; rfl
theorem cn_n (h0 : 0 ≤ i) (h1 : i < vs.length) (h : ¬ (vr vs i).kd = k) : cn vs k (i + 1) = cn vs k i := by unfold cn; rw [vfl_n h0 h1 h]
theorem cn_all (h : (vs.length : Int) ≤ i) : cn vs k i = (vfl vs k).length := by unfold cn; rw [List.take_of_length_le (by omega)]
theorem vfl_split (h0 : 0 ≤ i) (h1 : i < vs.length) (h : (vr vs i).kd = k) : vfl vs k = vfl (vs.take i.toNat) k ++ vr vs i :: vfl (vs.drop (i + 1).toNat) k := by
  have e : vs = vs.take i.toNat ++ vr vs i :: vs.drop (i + 1).toNat := by rw [← vr_drop h0 h1, List.take_append_drop]
  have := congrArg (fun l => vfl l k) e
  unfold vfl at this ⊢
  simp only [List.filter_append] at this
  rw [List.filter_cons_of_pos (by simpa using h)] at this
  exact this
theorem cn_lt (h0 : 0 ≤ i) (h1 : i < vs.length) (h : (vr vs i).kd = k) : cn vs k i < (vfl vs k).length := by
  rw [vfl_split h0 h1 h]; unfold cn; simp
theorem cn_vr (h0 : 0 ≤ i) (h1 : i < vs.length) (h : (vr vs i).kd = k) : vr (vfl vs k) (cn vs k i) = vr vs i := by
  unfold vr at *
  rw [List.getD_eq_getElem?_getD, Int.toNat_natCast, vfl_split h0 h1 h]
  unfold cn
  rw [List.getElem?_append_right (Nat.le_refl _), Nat.sub_self]; rfl
end
theorem gi_drop {A : List Int} {c : Nat} {x : Int} (h : 0 ≤ x) : gi (A.drop c) x = gi A (c + x) := by
  unfold gi
  rw [List.getD_eq_getElem?_getD, List.getD_eq_getElem?_getD, List.getElem?_drop, show ((c : Int) + x).toNat = c + x.toNat by omega]
/-- Inputs of the right number, in their ranges. -/
structure InOk (vs : List Vr) (A B C : List Int) : Prop where
  l1 : A.length = (vfl vs 1).length
  l2 : B.length = (vfl vs 2).length
  l3 : C.length = (vfl vs 3).length
  r1 : inR (vfl vs 1) A
  r2 : inR (vfl vs 2) B
  r3 : inR (vfl vs 3) C
section
variable {vs : List Vr} {A B C : List Int} {i : Int}
theorem iniL_len : (iniL vs A B C).length = vs.length := by simp [iniL]
theorem iniL_gi (h0 : 0 ≤ i) (h1 : i < vs.length) : gi (iniL vs A B C) i = iniE vs A B C i := by
  unfold iniL gi
  rw [List.getD_eq_getElem?_getD, List.getElem?_map, List.getElem?_range (by omega)]
  show iniE vs A B C (i.toNat : Nat) = _
  rw [show ((i.toNat : Nat) : Int) = i by omega]
theorem iniL_take (h0 : 0 ≤ i) (h1 : i < vs.length) : (iniL vs A B C).take (i + 1).toNat = (iniL vs A B C).take i.toNat ++ [iniE vs A B C i] := by
  rw [show (i + 1).toNat = i.toNat + 1 by omega, take_snoc (d := (0 : Int)) h0 (by rw [iniL_len]; exact h1)]
  congr 2
  exact iniL_gi h0 h1
theorem ini_0 (h : (vr vs i).kd = 0) : iniE vs A B C i = (vr vs i).ini := if_pos h
theorem ini_1 (h : (vr vs i).kd = 1) : iniE vs A B C i = gi (A.drop (cn vs 1 i)) 0 := by unfold iniE; rw [if_neg (by omega), h, gi_drop (by omega)]; rfl
theorem ini_2 (h : (vr vs i).kd = 2) : iniE vs A B C i = gi (B.drop (cn vs 2 i)) 0 := by unfold iniE; rw [if_neg (by omega), h, gi_drop (by omega)]; rfl
theorem ini_3 (h : (vr vs i).kd = 3) : iniE vs A B C i = gi (C.drop (cn vs 3 i)) 0 := by unfold iniE; rw [if_neg (by omega), h, gi_drop (by omega)]; rfl
theorem lft {k : Int} {X : List Int} (hl : X.length = (vfl vs k).length) (hr : inR (vfl vs k) X) (h0 : 0 ≤ i) (h1 : i < vs.length) (h : (vr vs i).kd = k) :
    cn vs k i < X.length ∧ (vr vs i).lo ≤ gi (X.drop (cn vs k i)) 0 ∧ gi (X.drop (cn vs k i)) 0 ≤ (vr vs i).hi := by
  have a := cn_lt h0 h1 h
  have b := hr (cn vs k i) (by omega) (by omega)
  rw [cn_vr h0 h1 h] at b
  rw [gi_drop (by omega), show (cn vs k i : Int) + 0 = cn vs k i by omega]
  exact ⟨by omega, b⟩
theorem ini_inR (hV : VarsOk vs) (hI : InOk vs A B C) : inR vs (iniL vs A B C) := fun i h0 h1 => by
  rw [iniL_gi h0 h1]
  have hk := kd_in (hV.each i h0 h1).2.2.1
  rcases hk with e | e | e | e
  · rw [ini_0 e]; exact (ini_in (hV.each i h0 h1).2.2.2.2).1 e
  · rw [ini_1 e]; exact (lft hI.l1 hI.r1 h0 h1 e).2
  · rw [ini_2 e]; exact (lft hI.l2 hI.r2 h0 h1 e).2
  · rw [ini_3 e]; exact (lft hI.l3 hI.r3 h0 h1 e).2
end
theorem Ints.lstep {V : HV} {a : Value} {vs : List Vr} {k i : Int} {X : List Int} (h : Ints .i64 V a (X.drop (cn vs k i))) (hlt : cn vs k i < X.length) (h0 : 0 ≤ i) (h1 : i < vs.length) (e : (vr vs i).kd = k) : Ints .i64 V (dropR a (1 : Int).toNat 1) (X.drop (cn vs k (i + 1))) := by
  have := Ints.dropR h (m := 1) (by rw [List.length_drop]; omega)
  rw [List.drop_drop] at this
  rw [cn_y h0 h1 e]
  exact this
theorem Ints.lsame {V : HV} {a : Value} {vs : List Vr} {k i : Int} {X : List Int} (h : Ints .i64 V a (X.drop (cn vs k i))) (h0 : 0 ≤ i) (h1 : i < vs.length) (e : ¬ (vr vs i).kd = k) : Ints .i64 V a (X.drop (cn vs k (i + 1))) := by rw [cn_n h0 h1 e]; exact h
theorem left4 {V : HV} {a1 a2 a3 : Value} (h1 : Ints .i64 V a1 []) (h2 : Ints .i64 V a2 []) (h3 : Ints .i64 V a3 []) {j : Int} (j0 : 0 ≤ j) (j1 : j < 4) : Ints .i64 V (gv [.slice none 0 0, a1, a2, a3] j) [] := by
  have : j = 0 ∨ j = 1 ∨ j = 2 ∨ j = 3 := by omega
  rcases this with rfl | rfl | rfl | rfl
  · exact ⟨none, 0, rfl, Nat.le_refl _, Nat.zero_le _, fun h => absurd rfl h⟩
  · exact h1
  · exact h2
  · exact h3
section
variable {F : Fl} {xs : List Int} {i : Int}
theorem hatL_len : (hatL F xs).length = F.hs.length := by simp [hatL]
theorem hatL_take (h0 : 0 ≤ i) (h1 : i < F.hs.length) : (hatL F xs).take (i + 1).toNat = (hatL F xs).take i.toNat ++ [hld (val xs (ht F.hs i).tm) (ht F.hs i).lo (ht F.hs i).hi] := by
  rw [show (i + 1).toNat = i.toNat + 1 by omega, take_snoc (d := (0 : Int)) h0 (by rw [hatL_len]; exact h1)]
  congr 2
  unfold hatL ht
  rw [List.getD_eq_getElem?_getD, List.getElem?_map, List.getD_eq_getElem?_getD, List.getElem?_eq_getElem (by omega)]; rfl
end
theorem start_rdy {F : Fl} {A B C : List Int} (hV : Valid F) (hI : InOk F.vs A B C) : Rdy F ⟨iniL F.vs A B C, [], 0⟩ (ubO F.bd) (ubT F.bd) :=
  ⟨iniL_len, ini_inR hV.vs hI, by have := hV.uO; show ((0 : Nat) : Int) + _ ≤ 8; omega, Int.le_refl _, by have := hV.uT; show (0 : Int) + _ ≤ _; omega, fun _ h => by cases h⟩
theorem obs_rdy {F : Fl} {A B C : List Int} (hV : Valid F) (hI : InOk F.vs A B C) : Rdy F (obsF F A B C) 0 0 :=
  runL_rdy hV.vs hV.bd 0 0 _ (fun _ => rfl) (Int.le_refl _) (Int.le_refl _) (by rw [Int.add_zero, Int.add_zero]; exact start_rdy hV hI)
end Go.Proofs.YtbchkopkgpfkgaaGreatDoor
