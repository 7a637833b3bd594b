/- Wx. -/
import Derived.Test.YtbchkopkgpfkgaaGreatDoorWb
import Derived.Test.YtbchkopkgpfkgaaGreatDoorWa
import Derived.Test.YtbchkopkgpfkgaaGreatDoorWm
import Derived.Test.YtbchkopkgpfkgaaGreatDoorWp
namespace Go.Vc
open Go

class Cat (a b : Res) (c : outParam Res) : Prop where out : a ++ b = c
instance catNil {b : Res} : Cat [] b b := ⟨rfl⟩
instance catCons {x : Asrt} {a b c : Res} [h : Cat a b c] : Cat (x :: a) b (x :: c) := ⟨by rw [← h.out]; rfl⟩
class SetAt (a : Res) (k : Nat) (x : Asrt) (c : outParam Res) : Prop where out : a.set k x = c
instance setNil {k : Nat} {x : Asrt} : SetAt [] k x [] := ⟨rfl⟩
instance setHit {y x : Asrt} {a : Res} : SetAt (y :: a) 0 x (x :: a) := ⟨rfl⟩
instance setMiss {y x : Asrt} {a c : Res} {k : Nat} [h : SetAt a k x c] : SetAt (y :: a) (k + 1) x (y :: c) := ⟨by rw [← h.out]; rfl⟩
class Nz (a : Res) (c : outParam Res) : Prop where out : a = c
instance (priority := 10) nzAny {a : Res} : Nz a a := ⟨rfl⟩
instance nzCons {x : Asrt} {a c : Res} [h : Nz a c] : Nz (x :: a) (x :: c) := ⟨by rw [← h.out]⟩
instance nzCat {a b a' b' c : Res} [h : Nz a a'] [i : Nz b b'] [j : Cat a' b' c] : Nz (a ++ b) c := ⟨by rw [h.out, i.out, j.out]⟩
instance nzSet {a a' c : Res} {k : Nat} {x : Asrt} [h : Nz a a'] [j : SetAt a' k x c] : Nz (a.set k x) c := ⟨by rw [h.out, j.out]⟩

class ArrAt (σ : Res) (b : Nat) (k : outParam Nat) (T : outParam TypeId) (cs : outParam (List Value)) : Prop where out : σ[k]? = some (Arr T b cs)
instance arrHit {σ : Res} {b : Nat} {T : TypeId} {cs : List Value} : ArrAt (Arr T b cs :: σ) b 0 T cs := ⟨rfl⟩
instance (priority := 100) arrMiss {x : Asrt} {σ : Res} {b k : Nat} {T : TypeId} {cs : List Value} [h : ArrAt σ b k T cs] : ArrAt (x :: σ) b (k + 1) T cs := ⟨by simpa using h.out⟩
class GrAt (σ : Res) (v : Value) (k : outParam Nat) (E : outParam TypeId) (s n : outParam Nat) (xs : outParam (List Value)) : Prop where out : σ[k]? = some (Gr E s v n xs)
instance grHit {σ : Res} {v : Value} {E : TypeId} {s n : Nat} {xs : List Value} : GrAt (Gr E s v n xs :: σ) v 0 E s n xs := ⟨rfl⟩
instance (priority := 100) grMiss {x : Asrt} {σ : Res} {v : Value} {k : Nat} {E : TypeId} {s n : Nat} {xs : List Value} [h : GrAt σ v k E s n xs] : GrAt (x :: σ) v (k + 1) E s n xs := ⟨by simpa using h.out⟩

class At (cs : List Value) (k : Nat) (v : outParam Value) : Prop where out : cs[k]? = some v
instance atHit {v : Value} {cs : List Value} : At (v :: cs) 0 v := ⟨rfl⟩
instance (priority := 100) atMiss {v u : Value} {cs : List Value} {k : Nat} [h : At cs k v] : At (u :: cs) (k + 1) v := ⟨by simpa using h.out⟩
class Dp (cs : List Value) (k : Nat) (ds : outParam (List Value)) : Prop where out : cs.drop k = ds
instance dpHit {cs : List Value} : Dp cs 0 cs := ⟨rfl⟩
instance (priority := 100) dpMiss {u : Value} {cs ds : List Value} {k : Nat} [h : Dp cs k ds] : Dp (u :: cs) (k + 1) ds := ⟨by rw [← h.out]; rfl⟩
class Tk (cs : List Value) (k : Nat) (ds : outParam (List Value)) : Prop where
  out : cs.take k = ds
  len : ds.length = k
instance tkHit {cs : List Value} : Tk cs 0 [] := ⟨rfl, rfl⟩
instance (priority := 100) tkMiss {u : Value} {cs ds : List Value} {k : Nat} [h : Tk cs k ds] : Tk (u :: cs) (k + 1) (u :: ds) := ⟨by rw [← h.out]; rfl, by rw [List.length_cons, h.len]⟩

class MX (P : Program) : Prop where out : P.follows .mixedOrders = true
class UL (P : Program) (T : TypeId) (d : outParam TypeDesc) : Prop where out : P.underlying T = some d
class SZ (P : Program) (T : TypeId) (s : outParam Nat) : Prop where out : SizeIs P T s
class PL (P : Program) (T : TypeId) : Prop where out : Plain P T
class AG (P : Program) (T : TypeId) (s : outParam Nat) : Prop where out : AggIs P T s
class TZ (P : Program) (T : TypeId) (z : outParam Value) (s y : outParam Nat) : Prop where out : TI P T z s y
class FI (P : Program) (T f : Nat) (o : outParam Nat) : Prop where out : FieldIs P T f o
class BI (P : Program) (T : TypeId) (pl : outParam (List (Nat × Nat))) (z : outParam (List Value)) : Prop where out : BuildIs P T pl z

section
variable {P : Program} {C : Cx} {N : Nat} {K : K3} {Q : Ex → K3} {env : Env} {V : HV} {σ σ' : Res} {ops : Array Oper} {rest : List Oper}
variable {dst : Option Nat} {d k s n m : Nat} {x y z : Operand} {t T T' E : TypeId} {pos : String} {af : Array Edge} {g : Option (Nat × Bool)} {v u : Value} {op : Op} {vs cs ds : List Value} {b off o : Nat}

theorem e_vl {q : Prop} (h : q := by (with_reducible_and_instances (conv => lhs; whnf) <;> fail)) : q := h
theorem a_ext {l : List Value} {i : Nat} (hx : ev env x = .tuple l.toArray) [h : At l i v] : QV P C ⟨dst, .extract x i, t, pos, af, g⟩ env V σ v := qv_ext v hx h.out
theorem e_vm {q : Prop} (h : q := by first | (with_reducible_and_instances (conv => lhs; whnf) <;> fail) | rfl) : q := h
theorem e_vd {q : Prop} (h : q := by ((conv => lhs; whnf) <;> fail)) : q := h
theorem a_fa {f r : Nat} [h : FI P T f o] (hx : ev env x = .pointer (some ⟨b, off, none⟩)) (hr : off + o = r := by exact e_vd) : QV P C ⟨dst, .fieldAddr T x f, t, pos, af, g⟩ env V σ (.pointer (some ⟨b, r, none⟩)) := hr ▸ qv_fa h.out hx
theorem a_pickt {a : Value} {p : Prop} {i : Decidable p} (hc : ev env z = .bool (decide p)) (hp : p) (hx : ev env x = a) : QV P C ⟨dst, .pick z x y, t, pos, af, g⟩ env V σ a := qv_pick_t hp hc hx
theorem a_pickf {a : Value} {p : Prop} {i : Decidable p} (hc : ev env z = .bool (decide p)) (hp : ¬ p) (hx : ev env y = a) : QV P C ⟨dst, .pick z x y, t, pos, af, g⟩ env V σ a := qv_pick_f hp hc hx
theorem a_not {p : Prop} {i : Decidable p} (hx : ev env x = .bool (decide p)) : QV P C ⟨dst, .unOp .not T x, t, pos, af, g⟩ env V σ (.bool (decide (¬ p))) := qv_not hx
theorem a_notT (hx : ev env x = .bool true) : QV P C ⟨dst, .unOp .not T x, t, pos, af, g⟩ env V σ (.bool false) := qv_notc hx
theorem a_notF (hx : ev env x = .bool false) : QV P C ⟨dst, .unOp .not T x, t, pos, af, g⟩ env V σ (.bool true) := qv_notc hx
theorem a_nilT {n c n2 c2 : Nat} [hT : UL P T (.slice E)] (hx : ev env x = .slice none n c) (hy : ev env y = .slice none n2 c2) : QV P C ⟨dst, .binOp .eql T x y T', t, pos, af, g⟩ env V σ (.bool true) := qv_eqnil hT.out hx hy
theorem a_nilF {n c n2 c2 : Nat} {ad : Addr} [hT : UL P T (.slice E)] (hx : ev env x = .slice (some ad) n c) (hy : ev env y = .slice none n2 c2) : QV P C ⟨dst, .binOp .eql T x y T', t, pos, af, g⟩ env V σ (.bool false) := qv_eqnil hT.out hx hy
theorem isPick {a : Value} (h : QV P C ⟨dst, .pick z x y, t, pos, af, g⟩ env V σ a) : QV P C ⟨dst, .pick z x y, t, pos, af, g⟩ env V σ a := h
theorem isLoad {a : Value} (h : QV P C ⟨dst, .load T x, t, pos, af, g⟩ env V σ a) : QV P C ⟨dst, .load T x, t, pos, af, g⟩ env V σ a := h
theorem isExt {a : Value} {i : Nat} (h : QV P C ⟨dst, .extract x i, t, pos, af, g⟩ env V σ a) : QV P C ⟨dst, .extract x i, t, pos, af, g⟩ env V σ a := h
theorem isFa {a : Value} {f : Nat} (h : QV P C ⟨dst, .fieldAddr T x f, t, pos, af, g⟩ env V σ a) : QV P C ⟨dst, .fieldAddr T x f, t, pos, af, g⟩ env V σ a := h
theorem a_ldp [hP : PL P T] (hx : ev env x = .pointer (some ⟨b, off, none⟩)) [hn : Nz σ σ'] [h : ArrAt σ' b k E cs] [ho : At cs off v] : QV P C ⟨dst, .load T x, t, pos, af, g⟩ env V σ v :=
  qv_ldp hP.out hx (inOc (by rw [hn.out]; exact h.out)) ho.out
theorem a_ldpV [hP : PL P T] (hx : ev env x = .pointer (some ⟨b, off, none⟩)) (h : Cells V b cs) [ho : At cs off v] : QV P C ⟨dst, .load T x, t, pos, af, g⟩ env V σ v := qv_ldp hP.out hx (inVc h) ho.out
theorem a_ldm [hA : AG P T s] (hx : ev env x = .pointer (some ⟨b, off, none⟩)) [hn : Nz σ σ'] [h : ArrAt σ' b k E cs] [hd : Dp cs off ds] [ht : Tk ds s vs]:
    QV P C ⟨dst, .load T x, t, pos, af, g⟩ env V σ (.agg vs.toArray) := qv_ldm hA.out hx (inOc (by rw [hn.out]; exact h.out)) (by rw [hd.out, ht.out]) ht.len
theorem a_ldmV [hA : AG P T s] (hx : ev env x = .pointer (some ⟨b, off, none⟩)) (h : Cells V b cs) [hd : Dp cs off ds] [ht : Tk ds s vs]:
    QV P C ⟨dst, .load T x, t, pos, af, g⟩ env V σ (.agg vs.toArray) := qv_ldm hA.out hx (inVc h) (by rw [hd.out, ht.out]) ht.len
end

/-- A quiet operation whose value is found without a word. -/
theorem q_a {q : Prop} (h : q := by
    first
    | ((with_reducible apply qv_mv); exact e_vl)
    | ((with_reducible apply qv_as); exact e_vl)
    | ((with_reducible apply isFa); exact a_fa rfl)
    | ((with_reducible apply isLoad); first | exact a_ldp rfl | exact a_ldpV rfl (by assumption) | exact a_ldm rfl | exact a_ldmV rfl (by assumption))
    | ((with_reducible apply isExt); exact a_ext rfl)
    | ((with_reducible apply qv_eql) <;> rfl)
    | ((with_reducible apply qv_lss) <;> rfl)
    | ((with_reducible apply qv_neq) <;> rfl)
    | ((with_reducible apply qv_leq) <;> rfl)
    | ((with_reducible apply qv_gtr) <;> rfl)
    | ((with_reducible apply qv_geq) <;> rfl)
    | ((with_reducible apply qv_add); rfl; rfl; omega)
    | ((with_reducible apply qv_sub); rfl; rfl; omega)
    | ((with_reducible apply qv_mul); rfl; rfl; omega)
    | ((with_reducible apply isPick); first
       | ((with_reducible apply a_pickt); (exact e_vl); assumption; exact e_vl)
       | ((with_reducible apply a_pickf); (exact e_vl); assumption; exact e_vl)
       | ((with_reducible apply qv_pick_tc); (exact e_vl); exact e_vl)
       | ((with_reducible apply qv_pick_fc); (exact e_vl); exact e_vl))
    | ((with_reducible apply a_not); exact e_vl)
    | ((with_reducible apply a_notT); exact e_vl)
    | ((with_reducible apply a_notF); exact e_vl)
    | ((with_reducible apply qv_min) <;> rfl)
    | ((with_reducible apply a_nilT); (exact e_vl); exact e_vl)
    | ((with_reducible apply a_nilF); (exact e_vl); exact e_vl)
    | ((with_reducible apply qv_max) <;> rfl)) : q := h

section
variable {d' : Option Nat} {op : Op} {t : TypeId} {pos : String} {af : Array Edge} {ops : Array Oper} {env : Env} {j d : Nat} {b : Bool} {p : Prop} {i : Decidable p}
theorem w_tc (hd : (ops[j]?).bind (·.dst) = some d) (he : env d = .bool b) : wantedE ⟨d', op, t, pos, af, some (j, b)⟩ ops env = true := by
  cases b
  · exact want_fc rfl hd he
  · exact want_tc rfl hd he
theorem w_t (hd : (ops[j]?).bind (·.dst) = some d) (he : env d = .bool (decide p)) (hp : p) : wantedE ⟨d', op, t, pos, af, some (j, true)⟩ ops env = true := want_t hp rfl hd he
theorem w_f (hd : (ops[j]?).bind (·.dst) = some d) (he : env d = .bool (decide p)) (hp : ¬ p) : wantedE ⟨d', op, t, pos, af, some (j, false)⟩ ops env = true := want_f hp rfl hd he
theorem w_u (hd : (ops[j]?).bind (·.dst) = some d) (he : env d = undef) : wantedE ⟨d', op, t, pos, af, some (j, b)⟩ ops env = false := want_u rfl hd he
theorem w_tnc (hd : (ops[j]?).bind (·.dst) = some d) (he : env d = .bool false) : wantedE ⟨d', op, t, pos, af, some (j, true)⟩ ops env = false := want_tnc rfl hd he
theorem w_fnc (hd : (ops[j]?).bind (·.dst) = some d) (he : env d = .bool true) : wantedE ⟨d', op, t, pos, af, some (j, false)⟩ ops env = false := want_fnc rfl hd he
theorem w_tn (hd : (ops[j]?).bind (·.dst) = some d) (he : env d = .bool (decide p)) (hp : ¬ p) : wantedE ⟨d', op, t, pos, af, some (j, true)⟩ ops env = false := want_tn hp rfl hd he
theorem w_fn (hd : (ops[j]?).bind (·.dst) = some d) (he : env d = .bool (decide p)) (hp : p) : wantedE ⟨d', op, t, pos, af, some (j, false)⟩ ops env = false := want_fn hp rfl hd he
end
/-- A guard that lets an operation through. -/
theorem w_a {q : Prop} (h : q := by
    first
    | ((with_reducible apply w_t); rfl; (exact e_vl); assumption)
    | ((with_reducible apply w_f); rfl; (exact e_vl); assumption)
    | ((with_reducible apply w_tc); rfl; exact e_vl)) : q := h
/-- A guard that shuts one out. -/
theorem w_n {q : Prop} (h : q := by
    first
    | ((with_reducible apply w_tn); rfl; (exact e_vl); assumption)
    | ((with_reducible apply w_fn); rfl; (exact e_vl); assumption)
    | ((with_reducible apply w_u); rfl; exact e_vl)
    | ((with_reducible apply w_tnc); rfl; exact e_vl)
    | ((with_reducible apply w_fnc); rfl; exact e_vl)) : q := h

section
variable {P : Program} {C : Cx} {N : Nat} {K : K3} {Q : Ex → K3} {env : Env} {V : HV} {σ σ' σq : Res} {ops : Array Oper} {rest : List Oper} {ro : List (Nat × Bool)}
variable {d i : Nat} {x y z : Operand} {t : TypeId} {pos : String} {af : Array Edge} {g : Option (Nat × Bool)} {v : Value} {op : Op}
theorem vcN {id : Nat} {l : List Oper} [hn : Nz σ σ'] (h : Ops P C N l.toArray K l env V σ') : VC P C N (.region id l.toArray false) K Q env V σ := vc_region (by rw [hn.out]; exact h)
theorem vcAny {id : Nat} {l : List Oper} [hm : MX P] [hn : Nz σ σ'] (hB : Region.lexB .any l.toArray = true) (h : Qops P C N l.toArray V σ' (fun e => K e V σ') l env) : VC P C N (.region id l.toArray true) K Q env V σ := by
  rw [hn.out]; exact vc_region_any hm.out hB h
end

instance (priority := 90) szTz {P : Program} {T : TypeId} {z : Value} {s y : Nat} [h : TZ P T z s y] : SZ P T s := ⟨h.out.size⟩
section
variable {P : Program} {T E F : TypeId}
instance plInt {k : IntKind} [h : UL P T (.int k)] : PL P T := ⟨_, h.out, by simp, by simp⟩
instance plBool [h : UL P T .bool] : PL P T := ⟨_, h.out, by simp, by simp⟩
instance plSlice [h : UL P T (.slice E)] : PL P T := ⟨_, h.out, by simp, by simp⟩
instance plPtr [h : UL P T (.pointer E)] : PL P T := ⟨_, h.out, by simp, by simp⟩
instance plMap [h : UL P T (.map E F)] : PL P T := ⟨_, h.out, by simp, by simp⟩
instance plStr [h : UL P T .string] : PL P T := ⟨_, h.out, by simp, by simp⟩
instance plFunc {a b : Array TypeId} {c : Bool} [h : UL P T (.func a b c)] : PL P T := ⟨_, h.out, by simp, by simp⟩
instance plIface {a : Array (String × TypeId)} [h : UL P T (.interface a)] : PL P T := ⟨_, h.out, by simp, by simp⟩
instance agStruct {s : Nat} {f : Array Field} [h : UL P T (.struct f)] [i : SZ P T s] : AG P T s := ⟨.struct h.out i.out⟩
instance agArray {s n : Nat} [h : UL P T (.array n E)] [i : SZ P T s] : AG P T s := ⟨.array h.out i.out⟩
class FAt (l : List Field) (f : Nat) (ty off : outParam Nat) : Prop where out : ∃ fl : Field, l[f]? = some fl ∧ fl.type = ty ∧ fl.offset = off
instance fatHit {a : String} {ty off : Nat} {e : Bool} {g p : String} {y : Nat} {l : List Field} : FAt (⟨a, ty, off, e, g, p, y⟩ :: l) 0 ty off := ⟨_, rfl, rfl, rfl⟩
instance (priority := 100) fatMiss {fl : Field} {l : List Field} {f ty off : Nat} [h : FAt l f ty off] : FAt (fl :: l) (f + 1) ty off := ⟨by obtain ⟨x, h1, h2⟩ := h.out; exact ⟨x, by simpa using h1, h2⟩⟩
class Ps (n : Nat) : Prop where out : n ≠ 0
instance psSucc {n : Nat} : Ps (n + 1) := ⟨Nat.succ_ne_zero n⟩
instance fiOf {l : List Field} {f off s : Nat} [h : UL P T (.struct l.toArray)] [i : FAt l f E off] [j : SZ P E s] [q : Ps s] : FI P T f off :=
  ⟨by obtain ⟨x, h1, h2, h3⟩ := i.out; exact ⟨_, x, s, h.out, by simpa using h1, h3, by rw [h2]; exact j.out, q.out⟩⟩
end
end Go.Vc

namespace Go.Vc
open Go

theorem o_m {p : Prop} (h : p := by omega) : p := h
theorem k_r {p : Prop} (h : p := by kernel_rfl) : p := h
theorem l_b {a b : Nat} (h : a.ble b = true) : a ≤ b := Nat.le_of_ble_eq_true h
theorem o_c {p : Prop} (h : p := by simp [Value.oneCell']) : p := h
theorem m_x {p : Prop} (h : p := by (simp only [maxLen]; omega)) : p := h
abbrev qt (i : Nat) : Nat × Bool := (i, false)
abbrev ld (i : Nat) : Nat × Bool := (i, true)
theorem c_i {k : IntKind} {a b : Int} (h : a = b) : Value.int k a = Value.int k b := congrArg _ h

class AtR (σ : Res) (k : Nat) (A : outParam Asrt) : Prop where out : ∀ d, σ.getD k d = A
instance atrHit {A : Asrt} {σ : Res} : AtR (A :: σ) 0 A := ⟨fun _ => rfl⟩
instance (priority := 100) atrMiss {A B : Asrt} {σ : Res} {k : Nat} [h : AtR σ k A] : AtR (B :: σ) (k + 1) A := ⟨fun d => by simpa using h.out d⟩
class Er (σ : Res) (k : Nat) (A : outParam Asrt) (τ : outParam Res) : Prop where out : σ.Perm (A :: τ)
instance erHit {A : Asrt} {σ : Res} : Er (A :: σ) 0 A σ := ⟨.refl _⟩
instance (priority := 100) erMiss {A B : Asrt} {σ τ : Res} {k : Nat} [h : Er σ k A τ] : Er (B :: σ) (k + 1) A (B :: τ) := ⟨(h.out.cons B).trans (.swap _ _ _)⟩
class Ers (σ : Res) (ks : List Nat) (as τ : outParam Res) : Prop where out : σ.Perm (as ++ τ)
instance ersNil {σ : Res} : Ers σ [] [] σ := ⟨.refl _⟩
instance ersCons {A : Asrt} {σ σ1 as τ : Res} {k : Nat} {ks : List Nat} [h : Er σ k A σ1] [i : Ers σ1 ks as τ] : Ers σ (k :: ks) (A :: as) τ := ⟨h.out.trans (i.out.cons A)⟩
class Ix (σ : Res) (ks : List Nat) (τ : outParam Res) : Prop where out : ks.map (fun i => σ.getD i (fun _ => True)) = τ
instance ixNil {σ : Res} : Ix σ [] [] := ⟨rfl⟩
instance ixCons {A : Asrt} {σ τ : Res} {k : Nat} {ks : List Nat} [h : AtR σ k A] [i : Ix σ ks τ] : Ix σ (k :: ks) (A :: τ) := ⟨by rw [List.map_cons, h.out, i.out]⟩
/-- The pieces that a region writes (mask: 1) and the others. -/
class Ms (σ : Res) (m : List Nat) (sq ta : outParam Res) : Prop where out : σ.Perm (sq ++ ta)
instance msNil {σ : Res} : Ms σ [] σ [] := ⟨by rw [List.append_nil]⟩
instance ms0 {A : Asrt} {σ sq ta : Res} {m : List Nat} [h : Ms σ m sq ta] : Ms (A :: σ) (0 :: m) (A :: sq) ta := ⟨h.out.cons A⟩
instance ms1 {A : Asrt} {σ sq ta : Res} {m : List Nat} [h : Ms σ m sq ta] : Ms (A :: σ) (1 :: m) sq (A :: ta) := ⟨(h.out.cons A).trans List.perm_middle.symm⟩
class Ap (σ σq : Res) (ρ : outParam Res) : Prop where out : σ.Perm (σq ++ ρ)
instance apNil {σ : Res} : Ap σ [] σ := ⟨.refl _⟩
instance apCons {A : Asrt} {σ σq ρ : Res} [h : Ap σ σq ρ] : Ap (A :: σ) (A :: σq) ρ := ⟨h.out.cons A⟩
/-- The cells of a value. -/
class Cl (v : Value) (cs : outParam (List Value)) : Prop where out : v.cells = cs.toArray
instance clAgg {l : List Value} : Cl (.agg l.toArray) l := ⟨rfl⟩
instance clInt {k : IntKind} {i : Int} : Cl (.int k i) [.int k i] := ⟨rfl⟩
instance clBool {b : Bool} : Cl (.bool b) [.bool b] := ⟨rfl⟩
instance clPtr {a : Option Addr} : Cl (.pointer a) [.pointer a] := ⟨rfl⟩
instance clSlice {a : Option Addr} {n c : Nat} : Cl (.slice a n c) [.slice a n c] := ⟨rfl⟩
instance clStr {b : ByteArray} : Cl (.string b) [.string b] := ⟨rfl⟩
instance clMap {b : Option Nat} : Cl (.map b) [.map b] := ⟨rfl⟩
class Zc (z : Value) (cs : outParam (List Value)) : Prop where out : z.cells = cs.toArray
instance zcOf {z : Value} {cs : List Value} [h : Cl z cs] : Zc z cs := ⟨h.out⟩
class SetL (cs : List Value) (k : Nat) (v : Value) (ds : outParam (List Value)) : Prop where out : cs.set k v = ds
instance setlHit {u v : Value} {cs : List Value} : SetL (u :: cs) 0 v (v :: cs) := ⟨rfl⟩
instance (priority := 100) setlMiss {u v : Value} {cs ds : List Value} {k : Nat} [h : SetL cs k v ds] : SetL (u :: cs) (k + 1) v (u :: ds) := ⟨by rw [← h.out]; rfl⟩

section
variable {P : Program} {C : Cx} {N : Nat} {K : K3} {Q : Ex → K3} {env : Env} {V V0 : HV} {σ σ' σ1 σq τ sq ta ρ : Res} {ops : Array Oper} {rest : List Oper} {ro : List (Nat × Bool)} {c : Code}
variable {d i n s y' m' b off : Nat} {x y z : Operand} {t T T2 E : TypeId} {pos : String} {af : Array Edge} {g : Option (Nat × Bool)} {v u z0 : Value} {op : Op} {cs ds xs news : List Value}

theorem f_i {f : FuncId} {fn : Func} {args : List Value} {σ0 : Res} {Φ : Value → HV → Res → Prop} {rs : Array ResultVar} (hf : P.funcs[f]? = some fn)
    (h : ∀ w0 D, VC P ⟨w0, V0, D⟩ N c (RetK P ⟨w0, V0, D⟩ rs Φ) (RetQ P ⟨w0, V0, D⟩ rs Φ) (look args) V0 σ0)
    (hname : (fn.name == "runtime.NumGoroutine") = false := by kernel_rfl) (hb : fn.body = some c := by rfl) (hN : fn.ntmps = N := by ((conv => lhs; whnf) <;> fail)) (hr : fn.results = rs := by rfl) (hl : args.length.ble N = true := by rfl) : FnC P f args V0 σ0 Φ :=
  fn_intro hf hname hb hN hr (Nat.le_of_ble_eq_true hl) h
theorem iff' {c : Operand} {a b : Code} {p : Prop} {i : Decidable p} (ht : p → VC P C N a K Q env V σ) (hf : ¬ p → VC P C N b K Q env V σ) (hc : ev env c = .bool (decide p) := by exact e_vl) : VC P C N (.cond c a b) K Q env V σ := vc_if hc ht hf
theorem i_ft {c : Operand} {a b : Code} {p : Prop} {i : Decidable p} (hp : p) (h : VC P C N a K Q env V σ) (hc : ev env c = .bool (decide p) := by exact e_vl) : VC P C N (.cond c a b) K Q env V σ := vc_if_t hc hp h
theorem i_fn {c : Operand} {a b : Code} {p : Prop} {i : Decidable p} (hp : ¬ p) (h : VC P C N b K Q env V σ) (hc : ev env c = .bool (decide p) := by exact e_vl) : VC P C N (.cond c a b) K Q env V σ := vc_if_f hc hp h

theorem v_d (k : Nat) {A : Asrt} [hn : Nz σ σ'] [h : Er σ' k A τ] (g : VC P C N c K Q env V τ) : VC P C N c K Q env V σ := by
  rw [hn.out]; exact vc_drop τ [A] (h.out.trans (List.perm_append_singleton A τ).symm) g
theorem v_dA (g : VC P C N c K Q env V []) : VC P C N c K Q env V σ := vc_drop [] σ (.refl _) g
theorem v_f (k : Nat) [hn : Nz σ σ'] [h : Er σ' k (Arr T b cs) τ] (g : ∀ V', Sub V V' → Cells V' b cs → VC P C N c K Q env V' τ) : VC P C N c K Q env V σ := by
  rw [hn.out]; exact vc_freeze h.out (fun V' h1 h2 => g V' h1 ⟨_, _, h2⟩)
theorem v_fG (k : Nat) [hn : Nz σ σ'] [h : Er σ' k (Gr E 1 v n xs) τ] (g : ∀ V', Sub V V' → Sl V' v xs → VC P C N c K Q env V' τ) : VC P C N c K Q env V σ := by
  rw [hn.out]; exact vc_freezeG h.out g
theorem v_fS (k : Nat) [hn : Nz σ σ'] [h : Er σ' k (Gr E s v n xs) τ] (g : ∀ V', Sub V V' → SlS s V' v n xs → VC P C N c K Q env V' τ) : VC P C N c K Q env V σ := by
  rw [hn.out]; exact vc_freezeS h.out g
theorem o_fz (k : Nat) [hn : Nz σ σ'] [h : Er σ' k (Arr T b cs) τ] (g : ∀ V', Sub V V' → Cells V' b cs → Ops P C N ops K rest env V' τ) : Ops P C N ops K rest env V σ := by
  rw [hn.out]; exact ops_freeze h.out (fun V' h1 h2 => g V' h1 ⟨_, _, h2⟩)
theorem o_fG (k : Nat) [hn : Nz σ σ'] [h : Er σ' k (Gr E 1 v n xs) τ] (g : ∀ V', Sub V V' → Sl V' v xs → Ops P C N ops K rest env V' τ) : Ops P C N ops K rest env V σ := by
  rw [hn.out]; exact ops_freezeG h.out g
theorem p_m (p : List Nat) [hn : Nz σ σ'] [h : Ix σ' p τ] (g : Ops P C N ops K rest env V τ) (hp : p.isPerm (List.range σ'.length) = true := by kernel_rfl) : Ops P C N ops K rest env V σ := by
  rw [hn.out]; exact ops_perm (perm_idx σ' τ p hp h.out) g

theorem ro1 (ord : List (Nat × Bool)) {id : Nat} {l : List Oper} [hm : MX P] [hn : Nz σ σ'] (h : Ords P C N l.toArray K ord env V σ' σ')
    (hB : (Region.noSelect l.toArray && decide (ord.length = l.toArray.size) && orderB .any l.toArray ord (Array.replicate l.toArray.size false)) = true := by kernel_rfl) : VC P C N (.region id l.toArray true) K Q env V σ := by
  rw [hn.out]; exact vc_region_order ord σ' hm.out (perm_nil _) hB h
theorem rom (ord : List (Nat × Bool)) (m : List Nat) {id : Nat} {l : List Oper} [hm : MX P] [hn : Nz σ σ'] [k : Ms σ' m sq ta] (h : Ords P C N l.toArray K ord env V σ' sq)
    (hB : (Region.noSelect l.toArray && decide (ord.length = l.toArray.size) && orderB .any l.toArray ord (Array.replicate l.toArray.size false)) = true := by kernel_rfl) : VC P C N (.region id l.toArray true) K Q env V σ := by
  rw [hn.out]; exact vc_region_order ord sq hm.out k.out hB h
theorem rE (n : Nat) (m : List Nat) {id : Nat} {l : List Oper} [hm : MX P] [hn : Nz σ σ'] [k : Ms σ' m sq ta] (h : EOrds P C N l.toArray K n (Array.replicate n false) env V σ' sq) (hl : l.length = n := by rfl) : VC P C N (.region id l.toArray true) K Q env V σ := by
  rw [hn.out]; exact vc_region_E sq hm.out k.out hl h
theorem on1 [hn : Nz σ σ'] (h : Ords P C N ops K ro env V σ' σ') : Ops P C N ops (fun e' V' σ' => ∃ σq' τ', σ'.Perm (σq' ++ τ') ∧ Ords P C N ops K ro e' V' σ' σq') [] env V σ :=
  ops_nil ⟨σ', [], by rw [hn.out, List.append_nil], by rw [hn.out]; exact h⟩
theorem on2 (m : List Nat) (hV : Sub V0 V) [hn : Nz σ σ'] [k : Ms σ' m sq ta] [a : Ap sq σq ρ] (h : Ords P C N ops K ro env V σ' sq) :
    Ops P C N ops (fun e' V' σ' => ∃ σq' τ', Sub V0 V' ∧ σ'.Perm (σq' ++ τ') ∧ (∃ ρ, σq'.Perm (σq ++ ρ)) ∧ Ords P C N ops K ro e' V' σ' σq') [] env V σ :=
  ops_nil ⟨sq, ta, hV, by rw [hn.out]; exact k.out, ⟨ρ, a.out⟩, by rw [hn.out]; exact h⟩

theorem on3 {f : Nat} {ls : Array Bool} (m : List Nat) (hV : Sub V0 V) [hn : Nz σ σ'] [k : Ms σ' m sq ta] [a : Ap sq σq ρ] (h : EOrds P C N ops K f ls env V σ' sq) :
    Ops P C N ops (fun e' V' σ' => ∃ σq' τ', σ'.Perm (σq' ++ τ') ∧ ((Sub V0 V' ∧ ∃ ρ, σq'.Perm (σq ++ ρ)) ∨ loneB .any ops i = true) ∧ EOrds P C N ops K f ls e' V' σ' σq') [] env V σ :=
  ops_nil ⟨sq, ta, by rw [hn.out]; exact k.out, .inl ⟨hV, ρ, a.out⟩, by rw [hn.out]; exact h⟩
theorem on4 {f : Nat} {ls : Array Bool} (m : List Nat) [hn : Nz σ σ'] [k : Ms σ' m sq ta] (h : EOrds P C N ops K f ls env V σ' sq) (hl : loneB .any ops i = true := by kernel_rfl) :
    Ops P C N ops (fun e' V' σ' => ∃ σq' τ', σ'.Perm (σq' ++ τ') ∧ ((Sub V0 V' ∧ ∃ ρ, σq'.Perm (σq ++ ρ)) ∨ loneB .any ops i = true) ∧ EOrds P C N ops K f ls e' V' σ' σq') [] env V σ :=
  ops_nil ⟨sq, ta, by rw [hn.out]; exact k.out, .inr hl, by rw [hn.out]; exact h⟩

class OpL (l : List Oper) (i : Nat) (o : outParam Oper) : Prop where out : l[i]? = some o
instance opHit {o : Oper} {l : List Oper} : OpL (o :: l) 0 o := ⟨rfl⟩
instance (priority := 100) opMiss {o u : Oper} {l : List Oper} {i : Nat} [h : OpL l i o] : OpL (u :: l) (i + 1) o := ⟨by simpa using h.out⟩
class OpA (l : Array Oper) (i : Nat) (o : outParam Oper) : Prop where out : l[i]? = some o
instance opaOf {o : Oper} {l : List Oper} {i : Nat} [h : OpL l i o] : OpA l.toArray i o := ⟨by simpa using h.out⟩
theorem rl_o {o : Oper} [ho : OpA ops i o] (h : Ops P C N ops (fun e' V' σ' => ∃ σq' τ', σ'.Perm (σq' ++ τ') ∧ Ords P C N ops K ro e' V' σ' σq') [o] env V σ) (hs : loneB .any ops i = true := by kernel_rfl) : Ords P C N ops K ((i, true) :: ro) env V σ σq := rl1 hs ho.out h
theorem rl_q {o : Oper} [ho : OpA ops i o] (h : Ops P C N ops (fun e' V' σ' => ∃ σq' τ', Sub V V' ∧ σ'.Perm (σq' ++ τ') ∧ (∃ ρ, σq'.Perm (σq ++ ρ)) ∧ Ords P C N ops K ro e' V' σ' σq') [o] env V σ) : Ords P C N ops K ((i, true) :: ro) env V σ σq := rl ho.out h
theorem el_o {f : Nat} {ls : Array Bool} {o : Oper} [ho : OpA ops i o] (h : Ops P C N ops (fun e' V' σ' => ∃ σq' τ', σ'.Perm (σq' ++ τ') ∧ ((Sub V V' ∧ ∃ ρ, σq'.Perm (σq ++ ρ)) ∨ loneB .any ops i = true) ∧ EOrds P C N ops K f (ls.setIfInBounds i true) e' V' σ' σq') [o] env V σ) : ELoud P C N ops K f ls env V σ σq i := ⟨o, ho.out, h⟩

theorem isStore (h : Ops P C N ops K (⟨none, .store T x y, t, pos, af, none⟩ :: rest) env V σ) : Ops P C N ops K (⟨none, .store T x y, t, pos, af, none⟩ :: rest) env V σ := h
theorem s_tp {k : Nat} [hS : SZ P T 1] (hx : ev env x = .pointer (some ⟨b, off, none⟩)) [hn : Nz σ σ'] [hk : ArrAt σ' b k E cs] (hy : ev env y = v) [hs : SetL cs off v ds] [hr : SetAt σ' k (Arr E b ds) τ] (hv1 : v.oneCell' = true)
    (h : Ops P C N ops K rest env V τ) (ho : Nat.blt off cs.length = true := by rfl) : Ops P C N ops K (⟨none, .store T x y, t, pos, af, none⟩ :: rest) env V σ := by
  refine ops_stp hS.out hx hy hv1 (by rw [hn.out]; exact hk.out) (by simpa [Nat.blt_eq] using ho) ?_
  rw [hs.out, hn.out, hr.out]; exact h
theorem s_tw {k : Nat} [hS : SZ P T s] (hx : ev env x = .pointer (some ⟨b, 0, none⟩)) (hy : ev env y = .agg ds.toArray) [hn : Nz σ σ'] [hk : ArrAt σ' b k E cs] [hr : SetAt σ' k (Arr E b ds) τ] (h1 : ds.all (·.oneCell') = true)
    (h : Ops P C N ops K rest env V τ) (hl : ds.length = s := by rfl) (hc : cs.length = ds.length := by rfl) : Ops P C N ops K (⟨none, .store T x y, t, pos, af, none⟩ :: rest) env V σ := by
  refine ops_stw hS.out hx hy hl h1 (by rw [hn.out]; exact hk.out) hc ?_
  rw [hn.out, hr.out]; exact h
theorem b_ox (h : ∀ b, Ops P C N ops K rest (Go.Vc.upd N env d (.pointer (some ⟨b, 0, none⟩))) V (σ ++ [Arr T b cs])) [hc : Cl v cs] (hx : ev env x = v := by exact e_vl) : Ops P C N ops K (⟨some d, .box T x, t, pos, af, none⟩ :: rest) env V σ := ops_box hx hc.out h
theorem a_lo [hi : TZ P T z0 s y'] [hc : Zc z0 cs] (h : ∀ b, Ops P C N ops K rest (Go.Vc.upd N env d (.pointer (some ⟨b, 0, none⟩))) V (σ ++ [Arr T b cs])) : Ops P C N ops K (⟨some d, .alloc T, t, pos, af, none⟩ :: rest) env V σ := ops_alloc hi.out hc.out h
theorem f_c {f : FuncId} {cap : Array Value} {l : List Operand} {at_ : Array TypeId} {args : List Value} {dst : Option Nat} (h : FnC P f args V [] (fun v' _ _ => v' = v)) (hx : ev env x = .func (.func f) #[] cap) (ha : l.map (ev env) ++ cap.toList = args) :
    QV P C ⟨dst, .call { callee := .value x, args := l.toArray, argTypes := at_ }, t, pos, af, g⟩ env V σ v := qv_call h hx ha
theorem c_l {f : FuncId} {cap : Array Value} {l : List Operand} {at_ : Array TypeId} {args : List Value} {dst : Option Nat} (ks : List Nat) {σp σr : Res} {Φ : Value → HV → Res → Prop} [hn : Nz σ σ'] [hk : Ers σ' ks σp σr] (h : FnC P f args V σp Φ)
    (hx : ev env x = .func (.func f) #[] cap) (ha : l.map (ev env) ++ cap.toList = args) (k : ∀ v V' τ, Sub V V' → Φ v V' τ → Ops P C N ops K rest (updO N env dst v) V' (τ ++ σr)) :
    Ops P C N ops K (⟨dst, .call { callee := .value x, args := l.toArray, argTypes := at_ }, t, pos, af, none⟩ :: rest) env V σ :=
  ops_call h hx ha (by rw [hn.out]; exact hk.out) k
theorem a_po {k j m c : Nat} {b2 : Nat} [hT : UL P T (.slice E)] [hi : TZ P E z0 s y'] (hx : ev env x = v) [hn : Nz σ σ'] [hk : GrAt σ' v k E s n xs] (hy : ev env y = .slice (some ⟨b2, 0, none⟩) m c) [hj : ArrAt σ' b2 j T2 news]
    (hl : news.length = m * s) (h1 : ∀ u ∈ news, u.oneCell' = true) (hb : (n + m) * y' ≤ 140737488355328) (h63 : n + m ≤ maxLen)
    (h : ∀ v', (v' = .slice none 0 0 ↔ v = .slice none 0 0 ∧ m = 0) → Ops P C N ops K rest (upd N env d v') V (σ'.set k (Gr E s v' (n + m) (xs ++ news)))) (hz : z0.cells.size = s := by rfl) (hs : Nat.ble 1 s = true := by rfl) :
    Ops P C N ops K (⟨some d, .call { callee := .builtin .append, args := #[x, y], argTypes := #[T, T] }, t, pos, af, none⟩ :: rest) env V σ := by
  obtain rfl := hn.out
  exact ops_append hT.out hi.out hz (Nat.le_of_ble_eq_true hs) hx hk.out hy hl (news_own hj.out) h1 hb h63 h
theorem a_pv {k : Nat} [hT : UL P T (.slice E)] [hi : TZ P E z0 1 y'] (hx : ev env x = v) [hn : Nz σ σ'] [hk : GrAt σ' v k E 1 n xs] (hy : ev env y = u) (hs : Sl V u news) (h1 : ∀ u ∈ news, u.oneCell' = true)
    (hb : (n + news.length) * y' ≤ 140737488355328) (h63 : n + news.length ≤ maxLen)
    (h : ∀ v', Ops P C N ops K rest (upd N env d v') V (σ'.set k (Gr E 1 v' (n + news.length) (xs ++ news)))) (hz : z0.cells.size = 1 := by rfl) :
    Ops P C N ops K (⟨some d, .call { callee := .builtin .append, args := #[x, y], argTypes := #[T, T] }, t, pos, af, none⟩ :: rest) env V σ := by
  obtain rfl := hn.out
  exact ops_appendV hT.out hi.out hz hx hk.out hy hs h1 hb h63 h
theorem r_va {a k : Nat} [hA : AG P T s] (hx : env a = .pointer (some ⟨b, off, none⟩)) [hn : Nz σ σ'] [hk : ArrAt σ' b k E cs] [hd : Dp cs off ds] [ht : Tk ds s xs] : RV P C env V σ (.cell a T) (.agg xs.toArray) :=
  rv_c hA.out hx (inOc (by rw [hn.out]; exact hk.out)) (by rw [hd.out, ht.out]) ht.len
end
structure Hd (q : Prop) : Prop where out : q
/-- One step. -/
theorem s_1 {p q : Prop} (h : q) (f : Hd q → p := by
    intro h
    first
    | ((with_reducible apply oq); exact q_a)
    | with_reducible apply vc_seq
    | with_reducible apply vcN
    | with_reducible apply ops_nil
    | with_reducible apply vc_skip
    | with_reducible apply vc_block
    | ((with_reducible apply os); exact w_n)
    | ((with_reducible apply isStore); first | refine s_tp rfl e_vl (by first | rfl | assumption) ?_ | refine s_tw rfl rfl (by rfl) ?_)
    | ((with_reducible apply og); (exact q_a); exact w_a)
    | ((with_reducible apply qq); exact q_a)
    | with_reducible apply qops_nil
    | ((with_reducible apply qs); exact w_n)
    | ((with_reducible apply qg); (exact q_a); exact w_a)
    | with_reducible apply vc_ret
    | with_reducible apply blockQ_ret
    | with_reducible apply vc_exit
    | with_reducible apply blockQ_hit
    | ((with_reducible apply blockQ_miss); rfl)
    | ((with_reducible apply rq); rfl; exact q_a)
    | with_reducible apply rnil
    | ((with_reducible apply vc_tt); exact e_vl)
    | ((with_reducible apply vc_ff); exact e_vl)
    | ((with_reducible apply vcAny); kernel_rfl)
    exact h.out) : p := f ⟨h⟩

theorem s_2 {p q : Prop} (h : q) (f : Hd q → p := by (intro h; (iterate 2 (refine s_1 ?_)); exact h.out)) : p := f ⟨h⟩
theorem s_3 {p q : Prop} (h : q) (f : Hd q → p := by (intro h; (iterate 3 (refine s_1 ?_)); exact h.out)) : p := f ⟨h⟩
theorem s_4 {p q : Prop} (h : q) (f : Hd q → p := by (intro h; (iterate 4 (refine s_1 ?_)); exact h.out)) : p := f ⟨h⟩
theorem s_5 {p q : Prop} (h : q) (f : Hd q → p := by (intro h; (iterate 5 (refine s_1 ?_)); exact h.out)) : p := f ⟨h⟩
theorem s_6 {p q : Prop} (h : q) (f : Hd q → p := by (intro h; (iterate 6 (refine s_1 ?_)); exact h.out)) : p := f ⟨h⟩
theorem s_7 {p q : Prop} (h : q) (f : Hd q → p := by (intro h; (iterate 7 (refine s_1 ?_)); exact h.out)) : p := f ⟨h⟩
theorem s_8 {p q : Prop} (h : q) (f : Hd q → p := by (intro h; (iterate 8 (refine s_1 ?_)); exact h.out)) : p := f ⟨h⟩
theorem s_9 {p q : Prop} (h : q) (f : Hd q → p := by (intro h; (iterate 9 (refine s_1 ?_)); exact h.out)) : p := f ⟨h⟩
theorem s_10 {p q : Prop} (h : q) (f : Hd q → p := by (intro h; (iterate 10 (refine s_1 ?_)); exact h.out)) : p := f ⟨h⟩
theorem s_11 {p q : Prop} (h : q) (f : Hd q → p := by (intro h; (iterate 11 (refine s_1 ?_)); exact h.out)) : p := f ⟨h⟩
theorem s_12 {p q : Prop} (h : q) (f : Hd q → p := by (intro h; (iterate 12 (refine s_1 ?_)); exact h.out)) : p := f ⟨h⟩
theorem s_13 {p q : Prop} (h : q) (f : Hd q → p := by (intro h; (iterate 13 (refine s_1 ?_)); exact h.out)) : p := f ⟨h⟩
theorem s_14 {p q : Prop} (h : q) (f : Hd q → p := by (intro h; (iterate 14 (refine s_1 ?_)); exact h.out)) : p := f ⟨h⟩
theorem s_15 {p q : Prop} (h : q) (f : Hd q → p := by (intro h; (iterate 15 (refine s_1 ?_)); exact h.out)) : p := f ⟨h⟩
theorem s_16 {p q : Prop} (h : q) (f : Hd q → p := by (intro h; (iterate 16 (refine s_1 ?_)); exact h.out)) : p := f ⟨h⟩
theorem s_17 {p q : Prop} (h : q) (f : Hd q → p := by (intro h; (iterate 17 (refine s_1 ?_)); exact h.out)) : p := f ⟨h⟩
theorem s_18 {p q : Prop} (h : q) (f : Hd q → p := by (intro h; (iterate 18 (refine s_1 ?_)); exact h.out)) : p := f ⟨h⟩
theorem s_19 {p q : Prop} (h : q) (f : Hd q → p := by (intro h; (iterate 19 (refine s_1 ?_)); exact h.out)) : p := f ⟨h⟩
theorem s_20 {p q : Prop} (h : q) (f : Hd q → p := by (intro h; (iterate 20 (refine s_1 ?_)); exact h.out)) : p := f ⟨h⟩
theorem s_21 {p q : Prop} (h : q) (f : Hd q → p := by (intro h; (iterate 21 (refine s_1 ?_)); exact h.out)) : p := f ⟨h⟩
theorem s_22 {p q : Prop} (h : q) (f : Hd q → p := by (intro h; (iterate 22 (refine s_1 ?_)); exact h.out)) : p := f ⟨h⟩
theorem s_23 {p q : Prop} (h : q) (f : Hd q → p := by (intro h; (iterate 23 (refine s_1 ?_)); exact h.out)) : p := f ⟨h⟩
theorem s_24 {p q : Prop} (h : q) (f : Hd q → p := by (intro h; (iterate 24 (refine s_1 ?_)); exact h.out)) : p := f ⟨h⟩
theorem s_25 {p q : Prop} (h : q) (f : Hd q → p := by (intro h; (iterate 25 (refine s_1 ?_)); exact h.out)) : p := f ⟨h⟩
theorem s_26 {p q : Prop} (h : q) (f : Hd q → p := by (intro h; (iterate 26 (refine s_1 ?_)); exact h.out)) : p := f ⟨h⟩
theorem s_27 {p q : Prop} (h : q) (f : Hd q → p := by (intro h; (iterate 27 (refine s_1 ?_)); exact h.out)) : p := f ⟨h⟩
theorem s_28 {p q : Prop} (h : q) (f : Hd q → p := by (intro h; (iterate 28 (refine s_1 ?_)); exact h.out)) : p := f ⟨h⟩
theorem s_29 {p q : Prop} (h : q) (f : Hd q → p := by (intro h; (iterate 29 (refine s_1 ?_)); exact h.out)) : p := f ⟨h⟩
theorem s_33 {p q : Prop} (h : q) (f : Hd q → p := by (intro h; (iterate 33 (refine s_1 ?_)); exact h.out)) : p := f ⟨h⟩
theorem s_36 {p q : Prop} (h : q) (f : Hd q → p := by (intro h; (iterate 36 (refine s_1 ?_)); exact h.out)) : p := f ⟨h⟩
theorem s_40 {p q : Prop} (h : q) (f : Hd q → p := by (intro h; (iterate 40 (refine s_1 ?_)); exact h.out)) : p := f ⟨h⟩
end Go.Vc

namespace Go.Vc
open Go
/-- The values of some slots. -/
inductive Vals (e : Env) : List Nat → List (Nat × Value) → Prop
  | nil : Vals e [] []
  | cons {t : Nat} {v : Value} {W : List Nat} {l : List (Nat × Value)} (h : e t = v) (r : Vals e W l) : Vals e (t :: W) ((t, v) :: l)
theorem Vals.has {e : Env} {W : List Nat} {l : List (Nat × Value)} (h : Vals e W l) : Has e l := by
  induction h with
  | nil => exact trivial
  | cons h _ ih => exact ⟨h, ih⟩
theorem v_ls {q : Prop} (h : q := by repeat (first | exact Vals.nil | (apply Vals.cons; (exact e_vl)))) : q := h
theorem h_sl {q : Prop} (h : q := by repeat (first | exact trivial | refine ⟨rfl, ?_⟩)) : q := h
theorem has_app {e : Env} : ∀ {a b : List (Nat × Value)}, Has e a → Has e b → Has e (a ++ b)
  | [], _, _, h => h
  | _ :: _, _, h, g => ⟨h.1, has_app h.2 g⟩
theorem upds_app {N : Nat} {e : Env} : ∀ {a b : List (Nat × Value)}, upds N (a ++ b) e = upds N a (upds N b e)
  | [], _ => rfl
  | (t, v) :: r, b => by
    show upd N (upds N (r ++ b) e) t v = upd N (upds N r (upds N b e)) t v
    rw [upds_app]
section
variable {P : Program} {C : Cx} {N : Nat} {K : K3} {Q : Ex → K3} {env e' : Env} {V V' : HV} {σ σ' σ2 σ3 : Res} {c : Code} {l : List (Nat × Value)}
theorem j_n (W : List Nat) (S : List (Nat × Value)) (h : VC P C N c (fun e V' σ' => Has e S ∧ Has e l ∧ V = V' ∧ σ = σ') Q env V σ) (k : ∀ e, K (upds N S (upds N l e)) V σ) (hl : Vals env W l := by exact v_ls) : VC P C N c K Q env V σ :=
  vc_j (S ++ l) (vc_mono h (fun _ _ _ ⟨a, b, d⟩ => ⟨has_app a b, d⟩) (fun _ _ _ _ h => h)) (fun e => by rw [upds_app]; exact k e)
theorem j_e {S : List (Nat × Value)} (a : Has e' S) (hl : Has e' l := by exact h_sl) (hv : V = V' := by rfl) (hσ : σ = σ2 := by rfl) : Has e' S ∧ Has e' l ∧ V = V' ∧ σ = σ2 := ⟨a, hl, hv, hσ⟩
theorem lp0 {α : Type} (S : α → List (Nat × Value)) (R : α → Res) (F : α → HV → Prop) (μ : α → Nat) (x0 : α) (W : List Nat) (hn : σ = σ') (hl : Vals env W l) (hs : Has env (S x0)) (h0 : R x0 = σ') (hF : F x0 V)
    (round : ∀ x e V1, F x V1 → VC P C N c (fun e' V' σ2 => ∃ x', Has e' (S x') ∧ Has e' l ∧ R x' = σ2 ∧ F x' V' ∧ μ x' < μ x) Q (upds N (S x) (upds N l e)) V1 (R x)) : VC P C N (.loop c) K Q env V σ := by
  subst hn
  refine vc_loop (fun x => S x ++ l) (fun x V' τ => R x = τ ∧ F x V') μ x0 (has_app hs hl.has) ⟨h0, hF⟩ ?_
  rintro x e V1 τ ⟨rfl, h⟩
  rw [upds_app]
  exact vc_mono (round x e V1 h) (fun _ _ _ ⟨x', a, b, d, f, g⟩ => ⟨x', has_app a b, ⟨d, f⟩, g⟩) (fun _ _ _ _ h => h)

theorem lp1 {A0 : Type} (W : List Nat) (S : A0 → List (Nat × Value)) (R : A0 → Res) (F : A0 → Prop) (μ : A0 → Nat) (x0 : A0) [hn : Nz σ σ'] (hs : Has env (S x0)) (h0 : R x0 = σ') (hF : F x0)
    (round : ∀ (y0 : A0) (e : Env), F y0 → VC P C N c (fun e' V' σ2 => ∃ (z0 : A0), Has e' (S z0) ∧ Has e' l ∧ V = V' ∧ R z0 = σ2 ∧ F z0 ∧ μ z0 < μ y0) Q (upds N (S y0) (upds N l e)) V (R y0)) (hl : Vals env W l := by exact v_ls) : VC P C N (.loop c) K Q env V σ :=
  lp0 (fun p => S p) (fun p => R p) (fun p V' => V = V' ∧ F p) (fun p => μ p) x0 W hn.out hl hs h0 ⟨rfl, hF⟩ (fun p e V1 ⟨hV, h⟩ => by subst hV; exact vc_mono (round p e h) (fun _ _ _ ⟨z0, a, b, hV, d, f, g⟩ => ⟨z0, a, b, d, ⟨hV, f⟩, g⟩) (fun _ _ _ _ h => h))
theorem lc1 {A0 : Type} (W : List Nat) (S : A0 → List (Nat × Value)) (F : A0 → Prop) (μ : A0 → Nat) (x0 : A0) [hn : Nz σ σ'] (hs : Has env (S x0)) (hF : F x0)
    (round : ∀ (y0 : A0) (e : Env), F y0 → VC P C N c (fun e' V' σ2 => ∃ (z0 : A0), Has e' (S z0) ∧ Has e' l ∧ V = V' ∧ σ' = σ2 ∧ F z0 ∧ μ z0 < μ y0) Q (upds N (S y0) (upds N l e)) V σ') (hl : Vals env W l := by exact v_ls) : VC P C N (.loop c) K Q env V σ :=
  lp1 W S (fun _ => σ') F μ x0 hs rfl hF round hl
theorem lv1 {A0 : Type} (W : List Nat) (S : A0 → List (Nat × Value)) (R : A0 → Res) (F : A0 → HV → Prop) (μ : A0 → Nat) (x0 : A0) [hn : Nz σ σ'] (hs : Has env (S x0)) (h0 : R x0 = σ') (hF : F x0 V)
    (round : ∀ (y0 : A0) (e : Env) (V1 : HV), F y0 V1 → VC P C N c (fun e' V' σ2 => ∃ (z0 : A0), Has e' (S z0) ∧ Has e' l ∧ R z0 = σ2 ∧ F z0 V' ∧ μ z0 < μ y0) Q (upds N (S y0) (upds N l e)) V1 (R y0)) (hl : Vals env W l := by exact v_ls) : VC P C N (.loop c) K Q env V σ :=
  lp0 (fun p => S p) (fun p => R p) (fun p V' => F p V') (fun p => μ p) x0 W hn.out hl hs h0 hF (fun p e V1 h => vc_mono (round p e V1 h) (fun _ _ _ ⟨z0, a, b, d, f, g⟩ => ⟨z0, a, b, d, f, g⟩) (fun _ _ _ _ h => h))
theorem le1 {A0 : Type} {S : A0 → List (Nat × Value)} {R : A0 → Res} {F : A0 → Prop} {ν : A0 → Nat} {m : Nat} (x0 : A0) [hn : Nz σ2 σ3] (a : Has e' (S x0)) (b : F x0) (hr : R x0 = σ3 := by rfl) (hμ : ν x0 < m := by omega) (hl : Has e' l := by exact h_sl) (hv : V = V' := by rfl) :
    ∃ (z0 : A0), Has e' (S z0) ∧ Has e' l ∧ V = V' ∧ R z0 = σ2 ∧ F z0 ∧ ν z0 < m := ⟨x0, a, hl, hv, by rw [hn.out]; exact hr, b, hμ⟩
theorem lw1 {A0 : Type} {S : A0 → List (Nat × Value)} {R : A0 → Res} {F : A0 → Prop} {ν : A0 → Nat} {m : Nat} (x0 : A0) [hn : Nz σ2 σ3] (a : Has e' (S x0)) (b : F x0) (hr : R x0 = σ3 := by rfl) (hμ : ν x0 < m := by omega) (hl : Has e' l := by exact h_sl) :
    ∃ (z0 : A0), Has e' (S z0) ∧ Has e' l ∧ R z0 = σ2 ∧ F z0 ∧ ν z0 < m := ⟨x0, a, hl, by rw [hn.out]; exact hr, b, hμ⟩

theorem lp2 {A0 : Type} {A1 : Type} (W : List Nat) (S : A0 → A1 → List (Nat × Value)) (R : A0 → A1 → Res) (F : A0 → A1 → Prop) (μ : A0 → A1 → Nat) (x0 : A0) (x1 : A1) [hn : Nz σ σ'] (hs : Has env (S x0 x1)) (h0 : R x0 x1 = σ') (hF : F x0 x1)
    (round : ∀ (y0 : A0) (y1 : A1) (e : Env), F y0 y1 → VC P C N c (fun e' V' σ2 => ∃ (z0 : A0) (z1 : A1), Has e' (S z0 z1) ∧ Has e' l ∧ V = V' ∧ R z0 z1 = σ2 ∧ F z0 z1 ∧ μ z0 z1 < μ y0 y1) Q (upds N (S y0 y1) (upds N l e)) V (R y0 y1)) (hl : Vals env W l := by exact v_ls) : VC P C N (.loop c) K Q env V σ :=
  lp0 (fun p => S (p.1) (p.2)) (fun p => R (p.1) (p.2)) (fun p V' => V = V' ∧ F (p.1) (p.2)) (fun p => μ (p.1) (p.2)) (x0, x1) W hn.out hl hs h0 ⟨rfl, hF⟩ (fun p e V1 ⟨hV, h⟩ => by subst hV; exact vc_mono (round (p.1) (p.2) e h) (fun _ _ _ ⟨z0, z1, a, b, hV, d, f, g⟩ => ⟨(z0, z1), a, b, d, ⟨hV, f⟩, g⟩) (fun _ _ _ _ h => h))
theorem lc2 {A0 : Type} {A1 : Type} (W : List Nat) (S : A0 → A1 → List (Nat × Value)) (F : A0 → A1 → Prop) (μ : A0 → A1 → Nat) (x0 : A0) (x1 : A1) [hn : Nz σ σ'] (hs : Has env (S x0 x1)) (hF : F x0 x1)
    (round : ∀ (y0 : A0) (y1 : A1) (e : Env), F y0 y1 → VC P C N c (fun e' V' σ2 => ∃ (z0 : A0) (z1 : A1), Has e' (S z0 z1) ∧ Has e' l ∧ V = V' ∧ σ' = σ2 ∧ F z0 z1 ∧ μ z0 z1 < μ y0 y1) Q (upds N (S y0 y1) (upds N l e)) V σ') (hl : Vals env W l := by exact v_ls) : VC P C N (.loop c) K Q env V σ :=
  lp2 W S (fun _ _ => σ') F μ x0 x1 hs rfl hF round hl
theorem lv2 {A0 : Type} {A1 : Type} (W : List Nat) (S : A0 → A1 → List (Nat × Value)) (R : A0 → A1 → Res) (F : A0 → A1 → HV → Prop) (μ : A0 → A1 → Nat) (x0 : A0) (x1 : A1) [hn : Nz σ σ'] (hs : Has env (S x0 x1)) (h0 : R x0 x1 = σ') (hF : F x0 x1 V)
    (round : ∀ (y0 : A0) (y1 : A1) (e : Env) (V1 : HV), F y0 y1 V1 → VC P C N c (fun e' V' σ2 => ∃ (z0 : A0) (z1 : A1), Has e' (S z0 z1) ∧ Has e' l ∧ R z0 z1 = σ2 ∧ F z0 z1 V' ∧ μ z0 z1 < μ y0 y1) Q (upds N (S y0 y1) (upds N l e)) V1 (R y0 y1)) (hl : Vals env W l := by exact v_ls) : VC P C N (.loop c) K Q env V σ :=
  lp0 (fun p => S (p.1) (p.2)) (fun p => R (p.1) (p.2)) (fun p V' => F (p.1) (p.2) V') (fun p => μ (p.1) (p.2)) (x0, x1) W hn.out hl hs h0 hF (fun p e V1 h => vc_mono (round (p.1) (p.2) e V1 h) (fun _ _ _ ⟨z0, z1, a, b, d, f, g⟩ => ⟨(z0, z1), a, b, d, f, g⟩) (fun _ _ _ _ h => h))
theorem le2 {A0 : Type} {A1 : Type} {S : A0 → A1 → List (Nat × Value)} {R : A0 → A1 → Res} {F : A0 → A1 → Prop} {ν : A0 → A1 → Nat} {m : Nat} (x0 : A0) (x1 : A1) [hn : Nz σ2 σ3] (a : Has e' (S x0 x1)) (b : F x0 x1) (hr : R x0 x1 = σ3 := by rfl) (hμ : ν x0 x1 < m := by omega) (hl : Has e' l := by exact h_sl) (hv : V = V' := by rfl) :
    ∃ (z0 : A0) (z1 : A1), Has e' (S z0 z1) ∧ Has e' l ∧ V = V' ∧ R z0 z1 = σ2 ∧ F z0 z1 ∧ ν z0 z1 < m := ⟨x0, x1, a, hl, hv, by rw [hn.out]; exact hr, b, hμ⟩
theorem lw2 {A0 : Type} {A1 : Type} {S : A0 → A1 → List (Nat × Value)} {R : A0 → A1 → Res} {F : A0 → A1 → Prop} {ν : A0 → A1 → Nat} {m : Nat} (x0 : A0) (x1 : A1) [hn : Nz σ2 σ3] (a : Has e' (S x0 x1)) (b : F x0 x1) (hr : R x0 x1 = σ3 := by rfl) (hμ : ν x0 x1 < m := by omega) (hl : Has e' l := by exact h_sl) :
    ∃ (z0 : A0) (z1 : A1), Has e' (S z0 z1) ∧ Has e' l ∧ R z0 z1 = σ2 ∧ F z0 z1 ∧ ν z0 z1 < m := ⟨x0, x1, a, hl, by rw [hn.out]; exact hr, b, hμ⟩

theorem lp3 {A0 : Type} {A1 : Type} {A2 : Type} (W : List Nat) (S : A0 → A1 → A2 → List (Nat × Value)) (R : A0 → A1 → A2 → Res) (F : A0 → A1 → A2 → Prop) (μ : A0 → A1 → A2 → Nat) (x0 : A0) (x1 : A1) (x2 : A2) [hn : Nz σ σ'] (hs : Has env (S x0 x1 x2)) (h0 : R x0 x1 x2 = σ') (hF : F x0 x1 x2)
    (round : ∀ (y0 : A0) (y1 : A1) (y2 : A2) (e : Env), F y0 y1 y2 → VC P C N c (fun e' V' σ2 => ∃ (z0 : A0) (z1 : A1) (z2 : A2), Has e' (S z0 z1 z2) ∧ Has e' l ∧ V = V' ∧ R z0 z1 z2 = σ2 ∧ F z0 z1 z2 ∧ μ z0 z1 z2 < μ y0 y1 y2) Q (upds N (S y0 y1 y2) (upds N l e)) V (R y0 y1 y2)) (hl : Vals env W l := by exact v_ls) : VC P C N (.loop c) K Q env V σ :=
  lp0 (fun p => S (p.1) (p.2.1) (p.2.2)) (fun p => R (p.1) (p.2.1) (p.2.2)) (fun p V' => V = V' ∧ F (p.1) (p.2.1) (p.2.2)) (fun p => μ (p.1) (p.2.1) (p.2.2)) (x0, x1, x2) W hn.out hl hs h0 ⟨rfl, hF⟩ (fun p e V1 ⟨hV, h⟩ => by subst hV; exact vc_mono (round (p.1) (p.2.1) (p.2.2) e h) (fun _ _ _ ⟨z0, z1, z2, a, b, hV, d, f, g⟩ => ⟨(z0, z1, z2), a, b, d, ⟨hV, f⟩, g⟩) (fun _ _ _ _ h => h))
theorem lv3 {A0 : Type} {A1 : Type} {A2 : Type} (W : List Nat) (S : A0 → A1 → A2 → List (Nat × Value)) (R : A0 → A1 → A2 → Res) (F : A0 → A1 → A2 → HV → Prop) (μ : A0 → A1 → A2 → Nat) (x0 : A0) (x1 : A1) (x2 : A2) [hn : Nz σ σ'] (hs : Has env (S x0 x1 x2)) (h0 : R x0 x1 x2 = σ') (hF : F x0 x1 x2 V)
    (round : ∀ (y0 : A0) (y1 : A1) (y2 : A2) (e : Env) (V1 : HV), F y0 y1 y2 V1 → VC P C N c (fun e' V' σ2 => ∃ (z0 : A0) (z1 : A1) (z2 : A2), Has e' (S z0 z1 z2) ∧ Has e' l ∧ R z0 z1 z2 = σ2 ∧ F z0 z1 z2 V' ∧ μ z0 z1 z2 < μ y0 y1 y2) Q (upds N (S y0 y1 y2) (upds N l e)) V1 (R y0 y1 y2)) (hl : Vals env W l := by exact v_ls) : VC P C N (.loop c) K Q env V σ :=
  lp0 (fun p => S (p.1) (p.2.1) (p.2.2)) (fun p => R (p.1) (p.2.1) (p.2.2)) (fun p V' => F (p.1) (p.2.1) (p.2.2) V') (fun p => μ (p.1) (p.2.1) (p.2.2)) (x0, x1, x2) W hn.out hl hs h0 hF (fun p e V1 h => vc_mono (round (p.1) (p.2.1) (p.2.2) e V1 h) (fun _ _ _ ⟨z0, z1, z2, a, b, d, f, g⟩ => ⟨(z0, z1, z2), a, b, d, f, g⟩) (fun _ _ _ _ h => h))
theorem le3 {A0 : Type} {A1 : Type} {A2 : Type} {S : A0 → A1 → A2 → List (Nat × Value)} {R : A0 → A1 → A2 → Res} {F : A0 → A1 → A2 → Prop} {ν : A0 → A1 → A2 → Nat} {m : Nat} (x0 : A0) (x1 : A1) (x2 : A2) [hn : Nz σ2 σ3] (a : Has e' (S x0 x1 x2)) (b : F x0 x1 x2) (hr : R x0 x1 x2 = σ3 := by rfl) (hμ : ν x0 x1 x2 < m := by omega) (hl : Has e' l := by exact h_sl) (hv : V = V' := by rfl) :
    ∃ (z0 : A0) (z1 : A1) (z2 : A2), Has e' (S z0 z1 z2) ∧ Has e' l ∧ V = V' ∧ R z0 z1 z2 = σ2 ∧ F z0 z1 z2 ∧ ν z0 z1 z2 < m := ⟨x0, x1, x2, a, hl, hv, by rw [hn.out]; exact hr, b, hμ⟩
theorem lw3 {A0 : Type} {A1 : Type} {A2 : Type} {S : A0 → A1 → A2 → List (Nat × Value)} {R : A0 → A1 → A2 → Res} {F : A0 → A1 → A2 → Prop} {ν : A0 → A1 → A2 → Nat} {m : Nat} (x0 : A0) (x1 : A1) (x2 : A2) [hn : Nz σ2 σ3] (a : Has e' (S x0 x1 x2)) (b : F x0 x1 x2) (hr : R x0 x1 x2 = σ3 := by rfl) (hμ : ν x0 x1 x2 < m := by omega) (hl : Has e' l := by exact h_sl) :
    ∃ (z0 : A0) (z1 : A1) (z2 : A2), Has e' (S z0 z1 z2) ∧ Has e' l ∧ R z0 z1 z2 = σ2 ∧ F z0 z1 z2 ∧ ν z0 z1 z2 < m := ⟨x0, x1, x2, a, hl, by rw [hn.out]; exact hr, b, hμ⟩

theorem lp4 {A0 : Type} {A1 : Type} {A2 : Type} {A3 : Type} (W : List Nat) (S : A0 → A1 → A2 → A3 → List (Nat × Value)) (R : A0 → A1 → A2 → A3 → Res) (F : A0 → A1 → A2 → A3 → Prop) (μ : A0 → A1 → A2 → A3 → Nat) (x0 : A0) (x1 : A1) (x2 : A2) (x3 : A3) [hn : Nz σ σ'] (hs : Has env (S x0 x1 x2 x3)) (h0 : R x0 x1 x2 x3 = σ') (hF : F x0 x1 x2 x3)
    (round : ∀ (y0 : A0) (y1 : A1) (y2 : A2) (y3 : A3) (e : Env), F y0 y1 y2 y3 → VC P C N c (fun e' V' σ2 => ∃ (z0 : A0) (z1 : A1) (z2 : A2) (z3 : A3), Has e' (S z0 z1 z2 z3) ∧ Has e' l ∧ V = V' ∧ R z0 z1 z2 z3 = σ2 ∧ F z0 z1 z2 z3 ∧ μ z0 z1 z2 z3 < μ y0 y1 y2 y3) Q (upds N (S y0 y1 y2 y3) (upds N l e)) V (R y0 y1 y2 y3)) (hl : Vals env W l := by exact v_ls) : VC P C N (.loop c) K Q env V σ :=
  lp0 (fun p => S (p.1) (p.2.1) (p.2.2.1) (p.2.2.2)) (fun p => R (p.1) (p.2.1) (p.2.2.1) (p.2.2.2)) (fun p V' => V = V' ∧ F (p.1) (p.2.1) (p.2.2.1) (p.2.2.2)) (fun p => μ (p.1) (p.2.1) (p.2.2.1) (p.2.2.2)) (x0, x1, x2, x3) W hn.out hl hs h0 ⟨rfl, hF⟩ (fun p e V1 ⟨hV, h⟩ => by subst hV; exact vc_mono (round (p.1) (p.2.1) (p.2.2.1) (p.2.2.2) e h) (fun _ _ _ ⟨z0, z1, z2, z3, a, b, hV, d, f, g⟩ => ⟨(z0, z1, z2, z3), a, b, d, ⟨hV, f⟩, g⟩) (fun _ _ _ _ h => h))
theorem le4 {A0 : Type} {A1 : Type} {A2 : Type} {A3 : Type} {S : A0 → A1 → A2 → A3 → List (Nat × Value)} {R : A0 → A1 → A2 → A3 → Res} {F : A0 → A1 → A2 → A3 → Prop} {ν : A0 → A1 → A2 → A3 → Nat} {m : Nat} (x0 : A0) (x1 : A1) (x2 : A2) (x3 : A3) [hn : Nz σ2 σ3] (a : Has e' (S x0 x1 x2 x3)) (b : F x0 x1 x2 x3) (hr : R x0 x1 x2 x3 = σ3 := by rfl) (hμ : ν x0 x1 x2 x3 < m := by omega) (hl : Has e' l := by exact h_sl) (hv : V = V' := by rfl) :
    ∃ (z0 : A0) (z1 : A1) (z2 : A2) (z3 : A3), Has e' (S z0 z1 z2 z3) ∧ Has e' l ∧ V = V' ∧ R z0 z1 z2 z3 = σ2 ∧ F z0 z1 z2 z3 ∧ ν z0 z1 z2 z3 < m := ⟨x0, x1, x2, x3, a, hl, hv, by rw [hn.out]; exact hr, b, hμ⟩
theorem lp5 {A0 : Type} {A1 : Type} {A2 : Type} {A3 : Type} {A4 : Type} (W : List Nat) (S : A0 → A1 → A2 → A3 → A4 → List (Nat × Value)) (R : A0 → A1 → A2 → A3 → A4 → Res) (F : A0 → A1 → A2 → A3 → A4 → Prop) (μ : A0 → A1 → A2 → A3 → A4 → Nat) (x0 : A0) (x1 : A1) (x2 : A2) (x3 : A3) (x4 : A4) [hn : Nz σ σ'] (hs : Has env (S x0 x1 x2 x3 x4)) (h0 : R x0 x1 x2 x3 x4 = σ') (hF : F x0 x1 x2 x3 x4)
    (round : ∀ (y0 : A0) (y1 : A1) (y2 : A2) (y3 : A3) (y4 : A4) (e : Env), F y0 y1 y2 y3 y4 → VC P C N c (fun e' V' σ2 => ∃ (z0 : A0) (z1 : A1) (z2 : A2) (z3 : A3) (z4 : A4), Has e' (S z0 z1 z2 z3 z4) ∧ Has e' l ∧ V = V' ∧ R z0 z1 z2 z3 z4 = σ2 ∧ F z0 z1 z2 z3 z4 ∧ μ z0 z1 z2 z3 z4 < μ y0 y1 y2 y3 y4) Q (upds N (S y0 y1 y2 y3 y4) (upds N l e)) V (R y0 y1 y2 y3 y4)) (hl : Vals env W l := by exact v_ls) : VC P C N (.loop c) K Q env V σ :=
  lp0 (fun p => S (p.1) (p.2.1) (p.2.2.1) (p.2.2.2.1) (p.2.2.2.2)) (fun p => R (p.1) (p.2.1) (p.2.2.1) (p.2.2.2.1) (p.2.2.2.2)) (fun p V' => V = V' ∧ F (p.1) (p.2.1) (p.2.2.1) (p.2.2.2.1) (p.2.2.2.2)) (fun p => μ (p.1) (p.2.1) (p.2.2.1) (p.2.2.2.1) (p.2.2.2.2)) (x0, x1, x2, x3, x4) W hn.out hl hs h0 ⟨rfl, hF⟩ (fun p e V1 ⟨hV, h⟩ => by subst hV; exact vc_mono (round (p.1) (p.2.1) (p.2.2.1) (p.2.2.2.1) (p.2.2.2.2) e h) (fun _ _ _ ⟨z0, z1, z2, z3, z4, a, b, hV, d, f, g⟩ => ⟨(z0, z1, z2, z3, z4), a, b, d, ⟨hV, f⟩, g⟩) (fun _ _ _ _ h => h))
theorem le5 {A0 : Type} {A1 : Type} {A2 : Type} {A3 : Type} {A4 : Type} {S : A0 → A1 → A2 → A3 → A4 → List (Nat × Value)} {R : A0 → A1 → A2 → A3 → A4 → Res} {F : A0 → A1 → A2 → A3 → A4 → Prop} {ν : A0 → A1 → A2 → A3 → A4 → Nat} {m : Nat} (x0 : A0) (x1 : A1) (x2 : A2) (x3 : A3) (x4 : A4) [hn : Nz σ2 σ3] (a : Has e' (S x0 x1 x2 x3 x4)) (b : F x0 x1 x2 x3 x4) (hr : R x0 x1 x2 x3 x4 = σ3 := by rfl) (hμ : ν x0 x1 x2 x3 x4 < m := by omega) (hl : Has e' l := by exact h_sl) (hv : V = V' := by rfl) :
    ∃ (z0 : A0) (z1 : A1) (z2 : A2) (z3 : A3) (z4 : A4), Has e' (S z0 z1 z2 z3 z4) ∧ Has e' l ∧ V = V' ∧ R z0 z1 z2 z3 z4 = σ2 ∧ F z0 z1 z2 z3 z4 ∧ ν z0 z1 z2 z3 z4 < m := ⟨x0, x1, x2, x3, x4, a, hl, hv, by rw [hn.out]; exact hr, b, hμ⟩
theorem lv6 {A0 : Type} {A1 : Type} {A2 : Type} {A3 : Type} {A4 : Type} {A5 : Type} (W : List Nat) (S : A0 → A1 → A2 → A3 → A4 → A5 → List (Nat × Value)) (R : A0 → A1 → A2 → A3 → A4 → A5 → Res) (F : A0 → A1 → A2 → A3 → A4 → A5 → HV → Prop) (μ : A0 → A1 → A2 → A3 → A4 → A5 → Nat) (x0 : A0) (x1 : A1) (x2 : A2) (x3 : A3) (x4 : A4) (x5 : A5) [hn : Nz σ σ'] (hs : Has env (S x0 x1 x2 x3 x4 x5)) (h0 : R x0 x1 x2 x3 x4 x5 = σ') (hF : F x0 x1 x2 x3 x4 x5 V)
    (round : ∀ (y0 : A0) (y1 : A1) (y2 : A2) (y3 : A3) (y4 : A4) (y5 : A5) (e : Env) (V1 : HV), F y0 y1 y2 y3 y4 y5 V1 → VC P C N c (fun e' V' σ2 => ∃ (z0 : A0) (z1 : A1) (z2 : A2) (z3 : A3) (z4 : A4) (z5 : A5), Has e' (S z0 z1 z2 z3 z4 z5) ∧ Has e' l ∧ R z0 z1 z2 z3 z4 z5 = σ2 ∧ F z0 z1 z2 z3 z4 z5 V' ∧ μ z0 z1 z2 z3 z4 z5 < μ y0 y1 y2 y3 y4 y5) Q (upds N (S y0 y1 y2 y3 y4 y5) (upds N l e)) V1 (R y0 y1 y2 y3 y4 y5)) (hl : Vals env W l := by exact v_ls) : VC P C N (.loop c) K Q env V σ :=
  lp0 (fun p => S (p.1) (p.2.1) (p.2.2.1) (p.2.2.2.1) (p.2.2.2.2.1) (p.2.2.2.2.2)) (fun p => R (p.1) (p.2.1) (p.2.2.1) (p.2.2.2.1) (p.2.2.2.2.1) (p.2.2.2.2.2)) (fun p V' => F (p.1) (p.2.1) (p.2.2.1) (p.2.2.2.1) (p.2.2.2.2.1) (p.2.2.2.2.2) V') (fun p => μ (p.1) (p.2.1) (p.2.2.1) (p.2.2.2.1) (p.2.2.2.2.1) (p.2.2.2.2.2)) (x0, x1, x2, x3, x4, x5) W hn.out hl hs h0 hF (fun p e V1 h => vc_mono (round (p.1) (p.2.1) (p.2.2.1) (p.2.2.2.1) (p.2.2.2.2.1) (p.2.2.2.2.2) e V1 h) (fun _ _ _ ⟨z0, z1, z2, z3, z4, z5, a, b, d, f, g⟩ => ⟨(z0, z1, z2, z3, z4, z5), a, b, d, f, g⟩) (fun _ _ _ _ h => h))
theorem lw6 {A0 : Type} {A1 : Type} {A2 : Type} {A3 : Type} {A4 : Type} {A5 : Type} {S : A0 → A1 → A2 → A3 → A4 → A5 → List (Nat × Value)} {R : A0 → A1 → A2 → A3 → A4 → A5 → Res} {F : A0 → A1 → A2 → A3 → A4 → A5 → Prop} {ν : A0 → A1 → A2 → A3 → A4 → A5 → Nat} {m : Nat} (x0 : A0) (x1 : A1) (x2 : A2) (x3 : A3) (x4 : A4) (x5 : A5) [hn : Nz σ2 σ3] (a : Has e' (S x0 x1 x2 x3 x4 x5)) (b : F x0 x1 x2 x3 x4 x5) (hr : R x0 x1 x2 x3 x4 x5 = σ3 := by rfl) (hμ : ν x0 x1 x2 x3 x4 x5 < m := by omega) (hl : Has e' l := by exact h_sl) :
    ∃ (z0 : A0) (z1 : A1) (z2 : A2) (z3 : A3) (z4 : A4) (z5 : A5), Has e' (S z0 z1 z2 z3 z4 z5) ∧ Has e' l ∧ R z0 z1 z2 z3 z4 z5 = σ2 ∧ F z0 z1 z2 z3 z4 z5 ∧ ν z0 z1 z2 z3 z4 z5 < m := ⟨x0, x1, x2, x3, x4, x5, a, hl, by rw [hn.out]; exact hr, b, hμ⟩

end
section
variable {P : Program} {C : Cx} {env : Env} {V : HV} {σ : Res} {Φ : Value → HV → Res → Prop} {t1 t2 t3 t4 : Nat} {v1 v2 v3 v4 : Value}
theorem rt1 (h : env t1 = v1) : RetQ P C #[.tmp t1] (fun v _ _ => v = v1) .ret env V σ := rq1 v1 h rfl
theorem rt2 (h : env t1 = v1) (h2 : env t2 = v2) : RetQ P C #[.tmp t1, .tmp t2] (fun v _ _ => v = .tuple #[v1, v2]) .ret env V σ := rq2 v1 v2 h h2 rfl
theorem rt3 (h : env t1 = v1) (h2 : env t2 = v2) (h3 : env t3 = v3) : RetQ P C #[.tmp t1, .tmp t2, .tmp t3] (fun v _ _ => v = .tuple #[v1, v2, v3]) .ret env V σ := rq3 v1 v2 v3 h h2 h3 rfl
theorem ra1 (h : Φ v1 V σ) (e : env t1 = v1 := by exact e_vl) : RetQ P C #[.tmp t1] Φ .ret env V σ := rq1 v1 e h
theorem ra2 (h : Φ (.tuple #[v1, v2]) V σ) (e : env t1 = v1 := by exact e_vl) (e2 : env t2 = v2 := by exact e_vl) : RetQ P C #[.tmp t1, .tmp t2] Φ .ret env V σ := rq2 v1 v2 e e2 h
theorem ra3 (h : Φ (.tuple #[v1, v2, v3]) V σ) (e : env t1 = v1 := by exact e_vl) (e2 : env t2 = v2 := by exact e_vl) (e3 : env t3 = v3 := by exact e_vl) : RetQ P C #[.tmp t1, .tmp t2, .tmp t3] Φ .ret env V σ := rq3 v1 v2 v3 e e2 e3 h
end
end Go.Vc
