import Derived.Test.YtbchkopkgpfkgaaGreatDoorTi
import Derived.Test.YtbchkopkgpfkgaaGreatDoorWp
import Derived.Test.YtbchkopkgpfkgaaGreatDoorTy
import Derived.Test.YtbchkopkgpfkgaaGreatDoorWb
/- Walks of the top laws: what each function returns. Printed by a program out of notes. -/
namespace Go.Proofs.YtbchkopkgpfkgaaGreatDoor
open Go.Vc
open Classical

set_option maxRecDepth 100000 in
set_option maxHeartbeats 4000000 in
theorem flag_c {V : HV} {p : Prop} [ip : Decidable p] :
    FnC Tryz.prog 184 [(.bool (decide (p)))] V [] (fun v _ _ => v = (.int .i64 (if p then 1 else 0))) := by
 refine f_i Tryz.func184 ?_
 intro w0 D
 refine s_9 ?_
 refine iff' ?_ ?_ <;> intro c1
 ·
  refine s_5 ?_
  exact rt1 (c_i (by first | exact (if_pos (by assumption)).symm | exact (if_neg (by assumption)).symm))
 ·
  refine s_6 ?_
  exact rt1 (c_i (by first | exact (if_pos (by assumption)).symm | exact (if_neg (by assumption)).symm))

theorem flag_t {V : HV} : FnC Tryz.prog 184 [.bool true] V [] (fun v _ _ => v = .int .i64 1) := flag_c (p := True)
theorem flag_f {V : HV} : FnC Tryz.prog 184 [.bool false] V [] (fun v _ _ => v = .int .i64 0) := flag_c (p := False)
set_option maxRecDepth 100000 in
set_option maxHeartbeats 4000000 in
theorem divide_c {V : HV} {a b : Int} (ha : -1048576 ≤ a ∧ a ≤ 1048576) (hb : -1048576 ≤ b ∧ b ≤ 1048576) :
    FnC Tryz.prog 198 [(Value.int .i64 a), (Value.int .i64 b)] V [] (fun v _ _ => v = (.int .i64 (dvF a b))) := by
 refine f_i Tryz.func198 ?_
 intro w0 D
 refine s_10 ?_
 refine iff' ?_ ?_ <;> intro c1
 ·
  refine s_5 ?_
  exact rt1 (c_i (by first | exact (dvF_z (by assumption)).symm | exact (dvF_n (by assumption) (by assumption)).symm | exact (dvF_a (by assumption) (And.left (by assumption)) (And.right (by assumption))).symm))
 ·
  refine s_2 ?_
  have htd := tdv_bd a b
  refine s_3 ?_
  refine oq (qv_quok (r := a.tdiv b) rfl rfl o_m (IntWalk.i64_in _ o_m)) ?_
  refine s_4 ?_
  refine j_n [0,1,4,5,7] [(21, (.bool (decide (((a.tmod b) ≠ 0) ∧ (¬ ((a < 0) ↔ (b < 0)))))))] ?_ (fun e1 => ?_)
  ·
   refine s_3 ?_
   refine oq (qv_remk (r := a.tmod b) rfl rfl o_m rfl) ?_
   refine s_2 ?_
   by_cases g1 : (a.tmod b) ≠ 0
   ·
    refine s_4 ?_
    refine og (qv_niffb UL.out rfl rfl) w_a ?_
    refine s_2 ?_
    exact j_e ⟨(jb (ja g1 Iff.rfl)), trivial⟩
   ·
    refine s_7 ?_
    exact j_e ⟨(jf (fun z => g1 z.1)), trivial⟩
  refine iff' ?_ ?_ <;> intro c2
  ·
   refine s_11 ?_
   exact rt1 (c_i (by first | exact (dvF_z (by assumption)).symm | exact (dvF_n (by assumption) (by assumption)).symm | exact (dvF_a (by assumption) (And.left (by assumption)) (And.right (by assumption))).symm))
  ·
   refine s_7 ?_
   exact rt1 (c_i (by first | exact (dvF_z (by assumption)).symm | exact (dvF_n (by assumption) (by assumption)).symm | exact (dvF_a (by assumption) (And.left (by assumption)) (And.right (by assumption))).symm))

set_option maxRecDepth 100000 in
set_option maxHeartbeats 4000000 in
theorem modulo_c {V : HV} {a b : Int} (ha : -1048576 ≤ a ∧ a ≤ 1048576) (hb : -1048576 ≤ b ∧ b ≤ 1048576) :
    FnC Tryz.prog 199 [(Value.int .i64 a), (Value.int .i64 b)] V [] (fun v _ _ => v = (.int .i64 (mdF a b))) := by
 refine f_i Tryz.func199 ?_
 intro w0 D
 refine s_10 ?_
 refine iff' ?_ ?_ <;> intro c1
 ·
  refine s_5 ?_
  exact rt1 (c_i (by unfold mdF; first | rw [if_pos (by assumption)] | rw [if_neg (by assumption)]))
 ·
  refine s_2 ?_
  have hmd := md_bd ha hb
  refine s_5 ?_
  refine oq (f_c (divide_c ha hb) rfl rfl) ?_
  refine s_5 ?_
  exact rt1 (c_i (by unfold mdF; first | rw [if_pos (by assumption)] | rw [if_neg (by assumption)]))

set_option maxRecDepth 100000 in
set_option maxHeartbeats 4000000 in
theorem binary_c {V : HV} {a b : Int} (ha : -1048576 ≤ a ∧ a ≤ 1048576) (hb : -1048576 ≤ b ∧ b ≤ 1048576) {o : Int} :
    FnC Tryz.prog 185 [(Value.int .i64 o), (Value.int .i64 a), (Value.int .i64 b)] V [] (fun v _ _ => v = (.int .i64 (vbin o a b))) := by
 refine f_i Tryz.func185 ?_
 intro w0 D
 refine s_15 ?_
 refine iff' ?_ ?_ <;> intro c1
 ·
  refine s_9 ?_
  exact rt1 (c_i (by refine Eq.symm ?_; unfold vbin; rw [if_pos (by assumption)]))
 ·
  refine s_5 ?_
  refine iff' ?_ ?_ <;> intro c2
  ·
   refine s_9 ?_
   exact rt1 (c_i (by refine Eq.symm ?_; unfold vbin; rw [if_neg o_m, if_pos (by assumption)]))
  ·
   refine s_5 ?_
   refine iff' ?_ ?_ <;> intro c3
   ·
    refine s_1 ?_
    have hmu := mul20 ha.1 ha.2 hb.1 hb.2
    refine s_8 ?_
    exact rt1 (c_i (by refine Eq.symm ?_; unfold vbin; rw [if_neg o_m, if_neg o_m, if_pos (by assumption)]))
   ·
    refine s_5 ?_
    refine iff' ?_ ?_ <;> intro c4
    ·
     refine s_4 ?_
     refine oq (f_c (divide_c ha hb) rfl rfl) ?_
     refine s_4 ?_
     exact rt1 (c_i (by refine Eq.symm ?_; unfold vbin; rw [if_neg o_m, if_neg o_m, if_neg o_m, if_pos (by assumption)]))
    ·
     refine s_5 ?_
     refine iff' ?_ ?_ <;> intro c5
     ·
      refine s_4 ?_
      refine oq (f_c (modulo_c ha hb) rfl rfl) ?_
      refine s_4 ?_
      exact rt1 (c_i (by refine Eq.symm ?_; unfold vbin; rw [if_neg o_m, if_neg o_m, if_neg o_m, if_neg o_m, if_pos (by assumption)]))
     ·
      refine s_5 ?_
      refine iff' ?_ ?_ <;> intro c6
      ·
       refine s_5 ?_
       refine oq (f_c (flag_c) rfl rfl) ?_
       refine s_4 ?_
       exact rt1 (c_i (by refine Eq.symm ?_; unfold vbin; rw [if_neg o_m, if_neg o_m, if_neg o_m, if_neg o_m, if_neg o_m, if_pos (by assumption)]))
      ·
       refine s_5 ?_
       refine iff' ?_ ?_ <;> intro c7
       ·
        refine s_5 ?_
        refine oq (f_c (flag_c) rfl rfl) ?_
        refine s_4 ?_
        exact rt1 (c_i (by refine Eq.symm ?_; unfold vbin; rw [if_neg o_m, if_neg o_m, if_neg o_m, if_neg o_m, if_neg o_m, if_neg o_m, if_pos (by assumption)]))
       ·
        refine s_5 ?_
        refine iff' ?_ ?_ <;> intro c8
        ·
         refine s_5 ?_
         refine oq (f_c (flag_c) rfl rfl) ?_
         refine s_4 ?_
         exact rt1 (c_i (by refine Eq.symm ?_; unfold vbin; rw [if_neg o_m, if_neg o_m, if_neg o_m, if_neg o_m, if_neg o_m, if_neg o_m, if_neg o_m, if_pos (by assumption)]))
        ·
         refine s_5 ?_
         refine iff' ?_ ?_ <;> intro c9
         ·
          refine s_5 ?_
          refine oq (f_c (flag_c) rfl rfl) ?_
          refine s_4 ?_
          exact rt1 (c_i (by refine Eq.symm ?_; unfold vbin; rw [if_neg o_m, if_neg o_m, if_neg o_m, if_neg o_m, if_neg o_m, if_neg o_m, if_neg o_m, if_neg o_m, if_pos (by assumption)]))
         ·
          refine s_5 ?_
          refine iff' ?_ ?_ <;> intro c10
          ·
           refine s_5 ?_
           refine oq (f_c (flag_c) rfl rfl) ?_
           refine s_4 ?_
           exact rt1 (c_i (by refine Eq.symm ?_; unfold vbin; rw [if_neg o_m, if_neg o_m, if_neg o_m, if_neg o_m, if_neg o_m, if_neg o_m, if_neg o_m, if_neg o_m, if_neg o_m, if_pos (by assumption)]))
          ·
           refine s_5 ?_
           refine iff' ?_ ?_ <;> intro c11
           ·
            refine s_5 ?_
            refine oq (f_c (flag_c) rfl rfl) ?_
            refine s_4 ?_
            exact rt1 (c_i (by refine Eq.symm ?_; unfold vbin; rw [if_neg o_m, if_neg o_m, if_neg o_m, if_neg o_m, if_neg o_m, if_neg o_m, if_neg o_m, if_neg o_m, if_neg o_m, if_neg o_m, if_pos (by assumption)]))
           ·
            refine s_5 ?_
            refine iff' ?_ ?_ <;> intro c12
            ·
             refine s_5 ?_
             by_cases g1 : a ≠ 0
             ·
              refine s_3 ?_
              refine oq (f_c (flag_c) rfl rfl) ?_
              refine s_4 ?_
              exact rt1 (c_i (by refine Eq.symm ?_; unfold vbin; rw [if_neg o_m, if_neg o_m, if_neg o_m, if_neg o_m, if_neg o_m, if_neg o_m, if_neg o_m, if_neg o_m, if_neg o_m, if_neg o_m, if_neg o_m, if_pos (by assumption)]; (repeat' split) <;> first | rfl | omega))
             ·
              refine s_3 ?_
              refine oq (f_c (flag_f) rfl rfl) ?_
              refine s_4 ?_
              exact rt1 (c_i (by refine Eq.symm ?_; unfold vbin; rw [if_neg o_m, if_neg o_m, if_neg o_m, if_neg o_m, if_neg o_m, if_neg o_m, if_neg o_m, if_neg o_m, if_neg o_m, if_neg o_m, if_neg o_m, if_pos (by assumption)]; (repeat' split) <;> first | rfl | omega))
            ·
             refine s_5 ?_
             refine iff' ?_ ?_ <;> intro c13
             ·
              refine s_5 ?_
              by_cases g2 : a ≠ 0
              ·
               refine s_3 ?_
               refine oq (f_c (flag_t) rfl rfl) ?_
               refine s_4 ?_
               exact rt1 (c_i (by refine Eq.symm ?_; unfold vbin; rw [if_neg o_m, if_neg o_m, if_neg o_m, if_neg o_m, if_neg o_m, if_neg o_m, if_neg o_m, if_neg o_m, if_neg o_m, if_neg o_m, if_neg o_m, if_neg o_m, if_pos (by assumption)]; (repeat' split) <;> first | rfl | omega))
              ·
               refine s_3 ?_
               refine oq (f_c (flag_c) rfl rfl) ?_
               refine s_4 ?_
               exact rt1 (c_i (by refine Eq.symm ?_; unfold vbin; rw [if_neg o_m, if_neg o_m, if_neg o_m, if_neg o_m, if_neg o_m, if_neg o_m, if_neg o_m, if_neg o_m, if_neg o_m, if_neg o_m, if_neg o_m, if_neg o_m, if_pos (by assumption)]; (repeat' split) <;> first | rfl | omega))
             ·
              refine s_5 ?_
              refine iff' ?_ ?_ <;> intro c14
              ·
               refine s_9 ?_
               exact rt1 (c_i (by refine Eq.symm ?_; unfold vbin; rw [if_neg o_m, if_neg o_m, if_neg o_m, if_neg o_m, if_neg o_m, if_neg o_m, if_neg o_m, if_neg o_m, if_neg o_m, if_neg o_m, if_neg o_m, if_neg o_m, if_neg o_m, if_pos (by assumption)]; unfold mnI; (repeat' split) <;> omega))
              ·
               refine s_9 ?_
               exact rt1 (c_i (by refine Eq.symm ?_; unfold vbin; rw [if_neg o_m, if_neg o_m, if_neg o_m, if_neg o_m, if_neg o_m, if_neg o_m, if_neg o_m, if_neg o_m, if_neg o_m, if_neg o_m, if_neg o_m, if_neg o_m, if_neg o_m, if_neg o_m]))

set_option maxRecDepth 100000 in
set_option maxHeartbeats 4000000 in
theorem clamp_c {V : HV} {n lo hi : Int} :
    FnC Tryz.prog 145 [(Value.int .i64 n), (Value.int .i64 lo), (Value.int .i64 hi)] V [] (fun v _ _ => v = (.int .i64 (hld n lo hi))) := by
 refine f_i Tryz.func145 ?_
 intro w0 D
 refine s_14 ?_
 exact rt1 (c_i (by unfold hld mnI mxI; (repeat' split) <;> omega))

/-- The value of a term of a size below k. -/
def VLC (k : Nat) : Prop := ∀ (V : HV) (t : Tm) (ks uv : Value) (vs : List Vr) (inp : Bool) (xs : List Int), Tms V ks t.kids → Ints .i64 V uv xs → xs.length = vs.length → inR vs xs → fmd vs inp t → rgo vs t → t.sz < k → FnC Tryz.prog 146 [uv, .agg #[.int .i64 t.op, .int .i64 t.n, ks]] V [] (fun v _ _ => v = .int .i64 (val xs t))
set_option maxRecDepth 100000 in
set_option maxHeartbeats 4000000 in
theorem value1_step {V : HV} {t : Tm} {ks uv : Value} {vs : List Vr} {inp : Bool} {xs : List Int} {k : Nat} {i : Int} {b2 b3 : Nat} (IH : VLC k) (hT : Tms V ks t.kids) (hx : Ints .i64 V uv xs) (hl : xs.length = vs.length) (hin : inR vs xs) (hf : fmd vs inp t) (hr : rgo vs t) (hk : t.sz < (k + 1 : Nat)) (i0 : 0 ≤ i) (i1 : i < t.kids.length) (hb2 : Cells V b2 [uv]) (hb3 : Cells V b3 [.int .i64 t.op, .int .i64 t.n, ks]) :
    FnC Tryz.prog 183 [(Value.int .i64 i), (Value.pointer (some ⟨b2, 0, none⟩)), (Value.pointer (some ⟨b3, 0, none⟩))] V [] (fun v _ _ => v = (.int .i64 (val xs (tm t.kids i)))) := by
 refine f_i Tryz.func183 ?_
 intro w0 D
 obtain ⟨kvs, hS, hK⟩ := hT
 have hb := SlS.bound hS
 have hff := (fmd_eq t).1 hf
 have hfk := fmdL_iff.1 hff.2.2
 have hrk := rgoL_iff.1 ((rgo_eq t).1 hr).1
 have hsz := szL_at (l := t.kids) i0 i1
 have hsn := szL_nn (t.kids.take i.toNat)
 have hsk := sz_kids t
 refine s_10 ?_
 refine qq (qv_ias UL.out SZ.out e_vm hS rfl o_m o_m) ?_
 refine qq (qv_lds AG.out rfl hS o_m o_m (tmcs_at o_m o_m)) ?_
 refine qq (f_c (IH _ _ _ _ _ _ _ (hK i i0 i1) hx hl hin (hfk i i0 i1) (hrk i i0 i1) o_m) rfl rfl) ?_
 refine s_3 ?_
 exact rt1 rfl

set_option maxRecDepth 100000 in
set_option maxHeartbeats 4000000 in
theorem value_step {V : HV} {t : Tm} {ks uv : Value} {vs : List Vr} {inp : Bool} {xs : List Int} {k : Nat} (IH : VLC k) (hT : Tms V ks t.kids) (hx : Ints .i64 V uv xs) (hl : xs.length = vs.length) (hin : inR vs xs) (hf : fmd vs inp t) (hr : rgo vs t) (hk : t.sz < (k + 1 : Nat)) :
    FnC Tryz.prog 146 [uv, (.agg #[(.int .i64 t.op), (.int .i64 t.n), ks])] V [] (fun v _ _ => v = (.int .i64 (val xs t))) := by
 refine f_i Tryz.func146 ?_
 intro w0 D
 have hff := (fmd_eq t).1 hf
 have hfk := fmdL_iff.1 hff.2.2
 have hrk := rgoL_iff.1 ((rgo_eq t).1 hr).1
 have hvb : ∀ j : Int, 0 ≤ j → j < t.kids.length → -1048576 ≤ val xs (tm t.kids j) ∧ val xs (tm t.kids j) ≤ 1048576 := fun j a b => val_bd hin (hfk j a b) (hrk j a b)
 have hln := kb_le hff.1
 refine s_2 ?_
 refine ops_box (v := uv) (cs := [uv]) rfl (Sl.cells hx) (fun b1 => ?_)
 refine b_ox fun b2 => ?_
 refine s_4 ?_
 refine oq (qv_func (cs := [(Value.pointer (some ⟨b1, 0, none⟩)), (Value.pointer (some ⟨b2, 0, none⟩))]) rfl) ?_
 refine s_4 ?_
 refine v_f 0 fun Vf1 hVf1 hc1 => ?_
 have hT := hT.mono hVf1
 have hx := hx.mono hVf1
 refine v_f 0 fun Vf2 hVf2 hc2 => ?_
 have hT := hT.mono hVf2
 have hx := hx.mono hVf2
 have hc1 := hc1.mono hVf2
 refine s_6 ?_
 have hT0 := hT
 obtain ⟨kvs, hS, hK⟩ := hT0
 refine s_4 ?_
 refine iff' ?_ ?_ <;> intro c1
 ·
  refine s_8 ?_
  exact rt1 (c_i (by exact (val_0 (by assumption)).symm))
 ·
  refine s_5 ?_
  refine iff' ?_ ?_ <;> intro c2
  ·
   refine s_1 ?_
   have hnv : 0 ≤ t.n ∧ t.n < (vs.length : Int) := Classical.byContradiction fun q => hff.2.1 (.inl ⟨by assumption, .inl o_m⟩)
   refine s_4 ?_
   refine oq (qv_iai UL.out SZ.out e_vm (inVi hx) rfl o_m o_m) ?_
   refine oq (qv_ldi PL.out rfl (inVi hx) o_m o_m) ?_
   refine s_4 ?_
   exact rt1 (c_i (by exact (val_24 (by assumption)).symm))
  ·
   refine s_5 ?_
   refine iff' ?_ ?_ <;> intro c3
   ·
    refine s_1 ?_
    have hkn := kb1 hff.1 o_m
    have hv0 := hvb 0 o_m o_m
    refine s_2 ?_
    refine oq (f_c (value1_step (i := 0) IH hT hx hl hin hf hr hk o_m o_m hc1 hc2) rfl rfl) ?_
    refine oq (qv_neg rfl o_m) ?_
    refine s_4 ?_
    exact rt1 (c_i (by exact (val_6 (by assumption) o_m).symm))
   ·
    refine s_5 ?_
    refine iff' ?_ ?_ <;> intro c4
    ·
     refine s_1 ?_
     have hkn := kb1 hff.1 o_m
     refine s_2 ?_
     refine oq (f_c (value1_step (i := 0) IH hT hx hl hin hf hr hk o_m o_m hc1 hc2) rfl rfl) ?_
     refine s_1 ?_
     refine oq (f_c (flag_c) rfl rfl) ?_
     refine s_4 ?_
     exact rt1 (c_i (by exact (val_7 (by assumption) o_m).symm))
    ·
     refine s_5 ?_
     refine iff' ?_ ?_ <;> intro c5
     ·
      refine s_2 ?_
      have hkn := kb3 hff.1 o_m
      refine s_2 ?_
      refine oq (f_c (value1_step (i := 0) IH hT hx hl hin hf hr hk o_m o_m hc1 hc2) rfl rfl) ?_
      refine s_2 ?_
      refine iff' ?_ ?_ <;> intro c6
      ·
       refine s_3 ?_
       refine oq (f_c (value1_step (i := 1) IH hT hx hl hin hf hr hk o_m o_m hc1 hc2) rfl rfl) ?_
       refine s_4 ?_
       exact rt1 (c_i (by first | exact (val_23a (by assumption) o_m (by assumption)).symm | exact (val_23b (by assumption) o_m (by assumption)).symm))
      ·
       refine s_4 ?_
       refine oq (f_c (value1_step (i := 2) IH hT hx hl hin hf hr hk o_m o_m hc1 hc2) rfl rfl) ?_
       refine s_4 ?_
       exact rt1 (c_i (by first | exact (val_23a (by assumption) o_m (by assumption)).symm | exact (val_23b (by assumption) o_m (by assumption)).symm))
     ·
      refine s_5 ?_
      refine iff' ?_ ?_ <;> intro c7
      ·
       refine s_1 ?_
       have hkn := kb4 hff.1 o_m
       have hhl := hld_in (n := val xs (tm t.kids 0)) (show 0 ≤ (t.kids.length : Int) - 2 by omega)
       refine s_3 ?_
       refine qq (f_c (value1_step (i := 0) IH hT hx hl hin hf hr hk o_m o_m hc1 hc2) rfl rfl) ?_
       refine s_2 ?_
       refine qq (qv_lenSS UL.out rfl hS) ?_
       refine s_1 ?_
       refine qq (f_c (clamp_c) rfl rfl) ?_
       refine s_1 ?_
       refine qq (f_c (value1_step (i := 1 + (hld (val xs (tm t.kids (0))) 0 (((t.kids.length : Int)) - 2))) IH hT hx hl hin hf hr hk o_m o_m hc1 hc2) rfl rfl) ?_
       refine s_4 ?_
       exact rt1 (c_i (by exact (val_25 (by assumption) o_m).symm))
      ·
       refine s_2 ?_
       have hkn := op_in hff.1 o_m
       refine s_4 ?_
       refine qq (f_c (value1_step (i := 0) IH hT hx hl hin hf hr hk o_m o_m hc1 hc2) rfl rfl) ?_
       refine s_1 ?_
       refine qq (f_c (value1_step (i := 1) IH hT hx hl hin hf hr hk o_m o_m hc1 hc2) rfl rfl) ?_
       refine qq (f_c (binary_c (hvb 0 o_m o_m) (hvb 1 o_m o_m)) rfl rfl) ?_
       refine s_3 ?_
       exact rt1 (c_i (by exact (val_bin o_m o_m).symm))

theorem value_c : ∀ k, VLC k
  | 0 => fun _ t _ _ _ _ _ _ _ _ _ _ _ h => absurd h (by have := t.sz_pos; omega)
  | k + 1 => fun V t ks uv vs inp xs hT hx hl hin hf hr hk => value_step (value_c k) hT hx hl hin hf hr hk
set_option maxRecDepth 100000 in
set_option maxHeartbeats 4000000 in
theorem Settled_c {V : HV} {bv : Value} {bs : List Int} {t : Int} (hb : Ints .i64 V bv bs) :
    FnC Tryz.prog 149 [bv, (Value.int .i64 t)] V [] (fun v _ _ => v = (.int .i64 (stl bs t))) := by
 refine f_i Tryz.func149 ?_
 intro w0 D
 have hbd := hb.bound
 refine s_14 ?_
 refine oq (qv_lenI UL.out rfl hb) ?_
 refine s_3 ?_
 refine lc1 [0,1,4,10,11] (fun (i : Int) => [(5, (.int .i64 ((stlF t (bs.take i.toNat)).1))), (6, (.bool (decide ((stlF t (bs.take i.toNat)).2 = true)))), (12, (Value.int .i64 i))]) (fun i => 0 ≤ i ∧ i ≤ bs.length) (fun i => (bs.length - i).toNat) 0 ?_ ?_ ?_ 
 · exact ⟨(c_i (by rfl)), (jf (by exact Bool.false_ne_true)), rfl, trivial⟩
 · exact ⟨by omega, by omega⟩
 rintro i e1 ⟨i1, i2⟩
 refine s_5 ?_
 refine iff' ?_ ?_ <;> intro c1
 ·
  refine s_5 ?_
  refine oq (qv_iai UL.out SZ.out e_vm (inVi hb) rfl o_m o_m) ?_
  refine oq (qv_ldi PL.out rfl (inVi hb) o_m o_m) ?_
  refine s_3 ?_
  refine j_n [0,1,4,5,6,8,10,11,12,13] [(27, (.bool (decide ((t ≤ (gi bs (i))) ∧ ((¬ ((stlF t (bs.take i.toNat)).2 = true)) ∨ ((gi bs (i)) < ((stlF t (bs.take i.toNat)).1)))))))] ?_ (fun e2 => ?_)
  ·
   refine s_5 ?_
   by_cases g1 : t ≤ (gi bs (i))
   ·
    refine s_3 ?_
    by_cases g2 : ¬ ((stlF t (bs.take i.toNat)).2 = true)
    ·
     refine s_6 ?_
     exact j_e ⟨(jt ⟨g1, (.inl g2)⟩), trivial⟩
    ·
     refine s_6 ?_
     exact j_e ⟨(jb (ja g1 (jo g2 Iff.rfl))), trivial⟩
   ·
    refine s_9 ?_
    exact j_e ⟨(jf (fun z => g1 z.1)), trivial⟩
  refine iff' ?_ ?_ <;> intro c2
  ·
   refine s_9 ?_
   exact le1 (i + 1) ⟨(c_i (by first | rw [st_y i1 o_m (by assumption)] | rw [st_n i1 o_m (by assumption)])), (jt (by first | rw [st_y i1 o_m (by assumption)] | rw [st_n i1 o_m (by assumption)])), (c_i (by rfl)), trivial⟩ ⟨by omega, by omega⟩
  ·
   refine s_5 ?_
   exact le1 (i + 1) ⟨(c_i (by first | rw [st_y i1 o_m (by assumption)] | rw [st_n i1 o_m (by assumption)])), (jb (by first | rw [st_y i1 o_m (by assumption)] | rw [st_n i1 o_m (by assumption)])), (c_i (by rfl)), trivial⟩ ⟨by omega, by omega⟩
 ·
  refine s_8 ?_
  exact rt1 (c_i (by rw [List.take_of_length_le o_m]; rfl))

end Go.Proofs.YtbchkopkgpfkgaaGreatDoor
