/- Gd. -/
import Derived.Test.YtbchkopkgpfkgaaGreatDoorTi
import Derived.Test.YtbchkopkgpfkgaaGreatDoorGa
import Derived.Test.YtbchkopkgpfkgaaGreatDoorWp
import Derived.Test.YtbchkopkgpfkgaaGreatDoorTy
import Derived.Test.YtbchkopkgpfkgaaGreatDoorWb
namespace Go.Proofs.YtbchkopkgpfkgaaGreatDoor
open Go.Vc
open Classical

set_option maxRecDepth 100000 in
set_option maxHeartbeats 4000000 in
theorem ruleP_c {V : HV} {t : Tm} {ks : Value} {va kv : Value} {vs : List Vr} {K : List Pr2} {inp : Bool} (hv : Vrs V va vs) (hkv : Prs V kv K) (hg : ∀ j : Int, gdR (pg K j)) (hkb : ¬ kBad t.op K.length) (hnb : ¬ nBad vs inp t.op t.n) (hwi : wiM (rul vs t.op t.n K)) (hT : Tms V ks t.kids) :
    FnC Tryz.prog 197 [va, (.agg #[(.int .i64 t.op), (.int .i64 t.n), ks]), kv] V [] (fun v _ _ => v = (.agg #[(.int .i64 ((rul vs t.op t.n K).1)), (.int .i64 ((rul vs t.op t.n K).2))])) := by
 refine f_i Tryz.func197 ?_
 intro w0 D
 obtain ⟨kvs, hS, hK⟩ := hT
 have hb2 := SlS.bound hv
 have hb3 := SlS.bound hkv
 refine s_2 ?_
 refine b_ox fun b1 => ?_
 refine a_lo fun b2 => ?_
 refine s_13 ?_
 refine iff' ?_ ?_ <;> intro c1
 ·
  refine s_6 ?_
  refine oq (qv_build (out := [(.int .i64 t.n), (.int .i64 t.n)]) BI.out [(0, [(.int .i64 t.n)]), (1, [(.int .i64 t.n)])] rfl rfl) ?_
  refine s_4 ?_
  refine rs1 _ (r_va rfl) ?_
  exact (aggc (consc (c_i (by rw [c1, rul_0b (lit_in (n := t.n) (vs := vs) (K := K) (by rw [c1] at hwi; exact hwi))])) (consc (c_i (by rw [c1, rul_0b (lit_in (n := t.n) (vs := vs) (K := K) (by rw [c1] at hwi; exact hwi))])) rfl)))
 ·
  refine s_5 ?_
  refine iff' ?_ ?_ <;> intro c2
  ·
   refine s_1 ?_
   have hnv : 0 ≤ t.n ∧ t.n < (vs.length : Int) := Classical.byContradiction fun q => hnb (.inl ⟨by assumption, .inl o_m⟩)
   refine ro1 [qt 0,qt 1,qt 2,qt 3,qt 4,qt 5,qt 6,qt 7,qt 8,qt 9,qt 10,qt 11,qt 12,ld 13] ?_
   refine s_3 ?_
   refine rq rfl (qv_ias UL.out SZ.out e_vm hv rfl o_m o_m) ?_
   refine rq rfl (qv_fas FI.out rfl hv o_m o_m) ?_
   refine rq rfl (qv_ldf PL.out rfl hv o_m o_m o_m (vrcs_el (o := 2) o_m o_m o_m rfl)) ?_
   refine s_3 ?_
   refine rq rfl (qv_ias UL.out SZ.out e_vm hv rfl o_m o_m) ?_
   refine rq rfl (qv_fas FI.out rfl hv o_m o_m) ?_
   refine rq rfl (qv_ldf PL.out rfl hv o_m o_m o_m (vrcs_el (o := 3) o_m o_m o_m rfl)) ?_
   refine rq rfl (qv_build (out := [(.int .i64 ((vr vs (t.n)).lo)), (.int .i64 ((vr vs (t.n)).hi))]) BI.out [(0, [(.int .i64 ((vr vs (t.n)).lo))]), (1, [(.int .i64 ((vr vs (t.n)).hi))])] rfl rfl) ?_
   refine rl_o ?_
   refine s_1 ?_
   refine on1 ?_
   refine s_3 ?_
   refine rs1 _ (r_va rfl) ?_
   exact (aggc (consc (c_i (by rw [c2]; rfl)) (consc (c_i (by rw [c2]; rfl)) rfl)))
  ·
   refine s_5 ?_
   refine iff' ?_ ?_ <;> intro c3
   ·
    refine s_1 ?_
    have hln := kb1 hkb o_m
    obtain ⟨ga1, ga2, ga3⟩ := hg 0
    obtain ⟨gb1, gb2, gb3⟩ := hg 1
    refine ro1 [qt 0,qt 1,qt 2,qt 3,qt 4,qt 5,qt 6,qt 7,qt 8,qt 9,qt 10,ld 11] ?_
    refine s_1 ?_
    refine rq rfl (qv_ias UL.out SZ.out e_vm hkv rfl o_m o_m) ?_
    refine rq rfl (qv_fas FI.out rfl hkv o_m o_m) ?_
    refine rq rfl (qv_ldf PL.out rfl hkv o_m o_m o_m (prcs_el (o := 1) o_m o_m o_m rfl)) ?_
    refine rq rfl (qv_neg rfl o_m) ?_
    refine s_1 ?_
    refine rq rfl (qv_ias UL.out SZ.out e_vm hkv rfl o_m o_m) ?_
    refine rq rfl (qv_fas FI.out rfl hkv o_m o_m) ?_
    refine rq rfl (qv_ldf PL.out rfl hkv o_m o_m o_m (prcs_el (o := 0) o_m o_m o_m rfl)) ?_
    refine rq rfl (qv_neg rfl o_m) ?_
    refine rq rfl (qv_build (out := [(.int .i64 (-((pg K (0)).2))), (.int .i64 (-((pg K (0)).1)))]) BI.out [(0, [(.int .i64 (-((pg K (0)).2)))]), (1, [(.int .i64 (-((pg K (0)).1)))])] rfl rfl) ?_
    refine rl_o ?_
    refine s_1 ?_
    refine on1 ?_
    refine s_3 ?_
    refine rs1 _ (r_va rfl) ?_
    exact (aggc (consc (c_i (by rw [c3]; rfl)) (consc (c_i (by rw [c3]; rfl)) rfl)))
   ·
    refine s_5 ?_
    refine iff' ?_ ?_ <;> intro c4
    ·
     refine s_1 ?_
     have hln := kb2 hkb o_m
     obtain ⟨ga1, ga2, ga3⟩ := hg 0
     obtain ⟨gb1, gb2, gb3⟩ := hg 1
     refine ro1 [qt 0,qt 1,qt 2,qt 3,qt 4,qt 5,qt 6,qt 7,qt 8,qt 9,qt 10,qt 11,qt 12,qt 13,qt 14,qt 15,qt 16,qt 17,qt 18,ld 19] ?_
     refine s_1 ?_
     refine rq rfl (qv_ias UL.out SZ.out e_vm hkv rfl o_m o_m) ?_
     refine rq rfl (qv_fas FI.out rfl hkv o_m o_m) ?_
     refine rq rfl (qv_ldf PL.out rfl hkv o_m o_m o_m (prcs_el (o := 0) o_m o_m o_m rfl)) ?_
     refine s_1 ?_
     refine rq rfl (qv_ias UL.out SZ.out e_vm hkv rfl o_m o_m) ?_
     refine rq rfl (qv_fas FI.out rfl hkv o_m o_m) ?_
     refine rq rfl (qv_ldf PL.out rfl hkv o_m o_m o_m (prcs_el (o := 0) o_m o_m o_m rfl)) ?_
     refine s_2 ?_
     refine rq rfl (qv_ias UL.out SZ.out e_vm hkv rfl o_m o_m) ?_
     refine rq rfl (qv_fas FI.out rfl hkv o_m o_m) ?_
     refine rq rfl (qv_ldf PL.out rfl hkv o_m o_m o_m (prcs_el (o := 1) o_m o_m o_m rfl)) ?_
     refine s_1 ?_
     refine rq rfl (qv_ias UL.out SZ.out e_vm hkv rfl o_m o_m) ?_
     refine rq rfl (qv_fas FI.out rfl hkv o_m o_m) ?_
     refine rq rfl (qv_ldf PL.out rfl hkv o_m o_m o_m (prcs_el (o := 1) o_m o_m o_m rfl)) ?_
     refine s_1 ?_
     refine rq rfl (qv_build (out := [(.int .i64 (((pg K (0)).1) + ((pg K (1)).1))), (.int .i64 (((pg K (0)).2) + ((pg K (1)).2)))]) BI.out [(0, [(.int .i64 (((pg K (0)).1) + ((pg K (1)).1)))]), (1, [(.int .i64 (((pg K (0)).2) + ((pg K (1)).2)))])] rfl rfl) ?_
     refine rl_o ?_
     refine s_1 ?_
     refine on1 ?_
     refine s_3 ?_
     refine rs1 _ (r_va rfl) ?_
     exact (aggc (consc (c_i (by rw [c4]; rfl)) (consc (c_i (by rw [c4]; rfl)) rfl)))
    ·
     refine s_5 ?_
     refine iff' ?_ ?_ <;> intro c5
     ·
      refine s_1 ?_
      have hln := kb2 hkb o_m
      obtain ⟨ga1, ga2, ga3⟩ := hg 0
      obtain ⟨gb1, gb2, gb3⟩ := hg 1
      refine ro1 [qt 0,qt 1,qt 2,qt 3,qt 4,qt 5,qt 6,qt 7,qt 8,qt 9,qt 10,qt 11,qt 12,qt 13,qt 14,qt 15,qt 16,qt 17,qt 18,ld 19] ?_
      refine s_1 ?_
      refine rq rfl (qv_ias UL.out SZ.out e_vm hkv rfl o_m o_m) ?_
      refine rq rfl (qv_fas FI.out rfl hkv o_m o_m) ?_
      refine rq rfl (qv_ldf PL.out rfl hkv o_m o_m o_m (prcs_el (o := 0) o_m o_m o_m rfl)) ?_
      refine s_1 ?_
      refine rq rfl (qv_ias UL.out SZ.out e_vm hkv rfl o_m o_m) ?_
      refine rq rfl (qv_fas FI.out rfl hkv o_m o_m) ?_
      refine rq rfl (qv_ldf PL.out rfl hkv o_m o_m o_m (prcs_el (o := 1) o_m o_m o_m rfl)) ?_
      refine s_2 ?_
      refine rq rfl (qv_ias UL.out SZ.out e_vm hkv rfl o_m o_m) ?_
      refine rq rfl (qv_fas FI.out rfl hkv o_m o_m) ?_
      refine rq rfl (qv_ldf PL.out rfl hkv o_m o_m o_m (prcs_el (o := 1) o_m o_m o_m rfl)) ?_
      refine s_1 ?_
      refine rq rfl (qv_ias UL.out SZ.out e_vm hkv rfl o_m o_m) ?_
      refine rq rfl (qv_fas FI.out rfl hkv o_m o_m) ?_
      refine rq rfl (qv_ldf PL.out rfl hkv o_m o_m o_m (prcs_el (o := 0) o_m o_m o_m rfl)) ?_
      refine s_1 ?_
      refine rq rfl (qv_build (out := [(.int .i64 (((pg K (0)).1) - ((pg K (1)).2))), (.int .i64 (((pg K (0)).2) - ((pg K (1)).1)))]) BI.out [(0, [(.int .i64 (((pg K (0)).1) - ((pg K (1)).2)))]), (1, [(.int .i64 (((pg K (0)).2) - ((pg K (1)).1)))])] rfl rfl) ?_
      refine rl_o ?_
      refine s_1 ?_
      refine on1 ?_
      refine s_3 ?_
      refine rs1 _ (r_va rfl) ?_
      exact (aggc (consc (c_i (by rw [c5]; rfl)) (consc (c_i (by rw [c5]; rfl)) rfl)))
     ·
      refine s_5 ?_
      refine iff' ?_ ?_ <;> intro c6
      ·
       refine s_1 ?_
       have hln := kb2 hkb o_m
       obtain ⟨ga1, ga2, ga3⟩ := hg 0
       obtain ⟨gb1, gb2, gb3⟩ := hg 1
       refine ro1 [qt 0,qt 1,qt 2,qt 3,qt 4,qt 5,qt 6,ld 7] ?_
       refine s_1 ?_
       refine rq rfl (qv_ias UL.out SZ.out e_vm hkv rfl o_m o_m) ?_
       refine rq rfl (qv_lds AG.out rfl hkv o_m o_m (prcs_at o_m o_m)) ?_
       refine s_1 ?_
       refine rq rfl (qv_ias UL.out SZ.out e_vm hkv rfl o_m o_m) ?_
       refine rq rfl (qv_lds AG.out rfl hkv o_m o_m (prcs_at o_m o_m)) ?_
       refine rq rfl (f_c (corners_c o_m o_m o_m o_m o_m o_m) rfl rfl) ?_
       refine rl_o ?_
       refine s_1 ?_
       refine on1 ?_
       refine s_3 ?_
       refine rs1 _ (r_va rfl) ?_
       exact (aggc (consc (c_i (by rw [c6]; rfl)) (consc (c_i (by rw [c6]; rfl)) rfl)))
      ·
       refine s_5 ?_
       refine iff' ?_ ?_ <;> intro c7
       ·
        refine s_1 ?_
        have hln := kb2 hkb o_m
        obtain ⟨ga1, ga2, ga3⟩ := hg 0
        obtain ⟨gb1, gb2, gb3⟩ := hg 1
        refine s_2 ?_
        refine qq (qv_ias UL.out SZ.out e_vm hkv rfl o_m o_m) ?_
        refine qq (qv_fas FI.out rfl hkv o_m o_m) ?_
        refine qq (qv_ldf PL.out rfl hkv o_m o_m o_m (prcs_el (o := 1) o_m o_m o_m rfl)) ?_
        refine s_1 ?_
        refine qq (qv_ias UL.out SZ.out e_vm hkv rfl o_m o_m) ?_
        refine qq (qv_fas FI.out rfl hkv o_m o_m) ?_
        refine qq (qv_ldf PL.out rfl hkv o_m o_m o_m (prcs_el (o := 0) o_m o_m o_m rfl)) ?_
        refine qq (qv_neg rfl o_m) ?_
        refine s_5 ?_
        refine j_n [0,1,2,4,6,7,13,14,21,36,49,70,91,100] [(123, (.bool (decide ((0 ≤ ((pg K (0)).1)) ∧ (0 ≤ ((pg K (1)).1))))))] ?_ (fun e1 => ?_)
        ·
         refine s_2 ?_
         refine oq (qv_ias UL.out SZ.out e_vm hkv rfl o_m o_m) ?_
         refine oq (qv_fas FI.out rfl hkv o_m o_m) ?_
         refine oq (qv_ldf PL.out rfl hkv o_m o_m o_m (prcs_el (o := 0) o_m o_m o_m rfl)) ?_
         refine s_2 ?_
         by_cases g1 : 0 ≤ ((pg K (0)).1)
         ·
          refine s_1 ?_
          refine og (qv_ias UL.out SZ.out e_vm hkv rfl o_m o_m) w_a ?_
          refine og (qv_fas FI.out rfl hkv o_m o_m) w_a ?_
          refine og (qv_ldf PL.out rfl hkv o_m o_m o_m (prcs_el (o := 0) o_m o_m o_m rfl)) w_a ?_
          refine s_3 ?_
          exact j_e ⟨(jb (ja g1 Iff.rfl)), trivial⟩
         ·
          refine s_7 ?_
          exact j_e ⟨(jf (fun z => g1 z.1)), trivial⟩
        refine iff' ?_ ?_ <;> intro c8
        ·
         refine s_3 ?_
         refine oq (qv_build (out := [(Value.int .i64 0), (.int .i64 (if ((pg K (0)).2) < (-((pg K (0)).1)) then -((pg K (0)).1) else (pg K (0)).2))]) BI.out [(0, [(Value.int .i64 0)]), (1, [(.int .i64 (if ((pg K (0)).2) < (-((pg K (0)).1)) then -((pg K (0)).1) else (pg K (0)).2))])] rfl rfl) ?_
         refine s_4 ?_
         refine rs1 _ (r_va rfl) ?_
         exact (aggc (consc (c_i (by have z := rul_11a (vs := vs) (n := t.n) (k := K) (by constructor <;> omega); first | (rw [c7, z]; done) | (rw [c7, z]; dsimp only; unfold mxI; (repeat' split) <;> first | rfl | omega))) (consc (c_i (by have z := rul_11a (vs := vs) (n := t.n) (k := K) (by constructor <;> omega); first | (rw [c7, z]; done) | (rw [c7, z]; dsimp only; unfold mxI; (repeat' split) <;> first | rfl | omega))) rfl)))
        ·
         refine s_4 ?_
         refine oq (qv_neg rfl o_m) ?_
         refine s_1 ?_
         refine oq (qv_build (out := [(.int .i64 (-(if ((pg K (0)).2) < (-((pg K (0)).1)) then -((pg K (0)).1) else (pg K (0)).2))), (.int .i64 (if ((pg K (0)).2) < (-((pg K (0)).1)) then -((pg K (0)).1) else (pg K (0)).2))]) BI.out [(0, [(.int .i64 (-(if ((pg K (0)).2) < (-((pg K (0)).1)) then -((pg K (0)).1) else (pg K (0)).2)))]), (1, [(.int .i64 (if ((pg K (0)).2) < (-((pg K (0)).1)) then -((pg K (0)).1) else (pg K (0)).2))])] rfl rfl) ?_
         refine s_4 ?_
         refine rs1 _ (r_va rfl) ?_
         exact (aggc (consc (c_i (by have z := rul_11b (vs := vs) (n := t.n) (k := K) o_m; first | (rw [c7, z]; done) | (rw [c7, z]; dsimp only; unfold mxI; (repeat' split) <;> first | rfl | omega))) (consc (c_i (by have z := rul_11b (vs := vs) (n := t.n) (k := K) o_m; first | (rw [c7, z]; done) | (rw [c7, z]; dsimp only; unfold mxI; (repeat' split) <;> first | rfl | omega))) rfl)))
       ·
        refine s_5 ?_
        refine iff' ?_ ?_ <;> intro c9
        ·
         refine s_1 ?_
         have hln := kb2 hkb o_m
         obtain ⟨ga1, ga2, ga3⟩ := hg 0
         obtain ⟨gb1, gb2, gb3⟩ := hg 1
         refine s_1 ?_
         refine oq (qv_build (out := [(Value.int .i64 0), (Value.int .i64 0)]) BI.out [] rfl rfl) ?_
         refine a_lo fun b3 => ?_
         refine s_6 ?_
         refine oq (qv_ias UL.out SZ.out e_vm hkv rfl o_m o_m) ?_
         refine oq (qv_fas FI.out rfl hkv o_m o_m) ?_
         refine oq (qv_ldf PL.out rfl hkv o_m o_m o_m (prcs_el (o := 0) o_m o_m o_m rfl)) ?_
         refine s_2 ?_
         refine iff' ?_ ?_ <;> intro c10
         ·
          refine s_2 ?_
          refine oq (qv_ias UL.out SZ.out e_vm hkv rfl o_m o_m) ?_
          refine oq (qv_fas FI.out rfl hkv o_m o_m) ?_
          refine oq (qv_ldf PL.out rfl hkv o_m o_m o_m (prcs_el (o := 0) o_m o_m o_m rfl)) ?_
          refine s_9 ?_
          refine oq (qv_ias UL.out SZ.out e_vm hkv rfl o_m o_m) ?_
          refine oq (qv_fas FI.out rfl hkv o_m o_m) ?_
          refine oq (qv_ldf PL.out rfl hkv o_m o_m o_m (prcs_el (o := 1) o_m o_m o_m rfl)) ?_
          refine s_2 ?_
          refine iff' ?_ ?_ <;> intro c11
          ·
           refine s_2 ?_
           refine oq (qv_ias UL.out SZ.out e_vm hkv rfl o_m o_m) ?_
           refine oq (qv_fas FI.out rfl hkv o_m o_m) ?_
           refine oq (qv_ldf PL.out rfl hkv o_m o_m o_m (prcs_el (o := 1) o_m o_m o_m rfl)) ?_
           refine s_12 ?_
           refine rs1 _ (r_va rfl) ?_
           exact (aggc (consc (c_i (by rw [c9]; first | (show _ = (if (pg K 1).1 < 0 then mnI 0 ((pg K 1).1 + 1) else 0); unfold mnI; (repeat' split) <;> first | rfl | omega) | (show _ = (if 0 < (pg K 1).2 then mxI 0 ((pg K 1).2 - 1) else 0); unfold mxI; (repeat' split) <;> first | rfl | omega))) (consc (c_i (by rw [c9]; first | (show _ = (if (pg K 1).1 < 0 then mnI 0 ((pg K 1).1 + 1) else 0); unfold mnI; (repeat' split) <;> first | rfl | omega) | (show _ = (if 0 < (pg K 1).2 then mxI 0 ((pg K 1).2 - 1) else 0); unfold mxI; (repeat' split) <;> first | rfl | omega))) rfl)))
          ·
           refine s_8 ?_
           refine rs1 _ (r_va rfl) ?_
           exact (aggc (consc (c_i (by rw [c9]; first | (show _ = (if (pg K 1).1 < 0 then mnI 0 ((pg K 1).1 + 1) else 0); unfold mnI; (repeat' split) <;> first | rfl | omega) | (show _ = (if 0 < (pg K 1).2 then mxI 0 ((pg K 1).2 - 1) else 0); unfold mxI; (repeat' split) <;> first | rfl | omega))) (consc (c_i (by rw [c9]; first | (show _ = (if (pg K 1).1 < 0 then mnI 0 ((pg K 1).1 + 1) else 0); unfold mnI; (repeat' split) <;> first | rfl | omega) | (show _ = (if 0 < (pg K 1).2 then mxI 0 ((pg K 1).2 - 1) else 0); unfold mxI; (repeat' split) <;> first | rfl | omega))) rfl)))
         ·
          refine s_5 ?_
          refine oq (qv_ias UL.out SZ.out e_vm hkv rfl o_m o_m) ?_
          refine oq (qv_fas FI.out rfl hkv o_m o_m) ?_
          refine oq (qv_ldf PL.out rfl hkv o_m o_m o_m (prcs_el (o := 1) o_m o_m o_m rfl)) ?_
          refine s_2 ?_
          refine iff' ?_ ?_ <;> intro c12
          ·
           refine s_2 ?_
           refine oq (qv_ias UL.out SZ.out e_vm hkv rfl o_m o_m) ?_
           refine oq (qv_fas FI.out rfl hkv o_m o_m) ?_
           refine oq (qv_ldf PL.out rfl hkv o_m o_m o_m (prcs_el (o := 1) o_m o_m o_m rfl)) ?_
           refine s_12 ?_
           refine rs1 _ (r_va rfl) ?_
           exact (aggc (consc (c_i (by rw [c9]; first | (show _ = (if (pg K 1).1 < 0 then mnI 0 ((pg K 1).1 + 1) else 0); unfold mnI; (repeat' split) <;> first | rfl | omega) | (show _ = (if 0 < (pg K 1).2 then mxI 0 ((pg K 1).2 - 1) else 0); unfold mxI; (repeat' split) <;> first | rfl | omega))) (consc (c_i (by rw [c9]; first | (show _ = (if (pg K 1).1 < 0 then mnI 0 ((pg K 1).1 + 1) else 0); unfold mnI; (repeat' split) <;> first | rfl | omega) | (show _ = (if 0 < (pg K 1).2 then mxI 0 ((pg K 1).2 - 1) else 0); unfold mxI; (repeat' split) <;> first | rfl | omega))) rfl)))
          ·
           refine s_8 ?_
           refine rs1 _ (r_va rfl) ?_
           exact (aggc (consc (c_i (by rw [c9]; first | (show _ = (if (pg K 1).1 < 0 then mnI 0 ((pg K 1).1 + 1) else 0); unfold mnI; (repeat' split) <;> first | rfl | omega) | (show _ = (if 0 < (pg K 1).2 then mxI 0 ((pg K 1).2 - 1) else 0); unfold mxI; (repeat' split) <;> first | rfl | omega))) (consc (c_i (by rw [c9]; first | (show _ = (if (pg K 1).1 < 0 then mnI 0 ((pg K 1).1 + 1) else 0); unfold mnI; (repeat' split) <;> first | rfl | omega) | (show _ = (if 0 < (pg K 1).2 then mxI 0 ((pg K 1).2 - 1) else 0); unfold mxI; (repeat' split) <;> first | rfl | omega))) rfl)))
        ·
         refine s_5 ?_
         refine iff' ?_ ?_ <;> intro c13
         ·
          refine s_1 ?_
          have hln := kb2 hkb o_m
          obtain ⟨ga1, ga2, ga3⟩ := hg 0
          obtain ⟨gb1, gb2, gb3⟩ := hg 1
          refine ro1 [qt 0,qt 1,qt 2,qt 3,qt 4,qt 5,qt 6,qt 7,qt 8,qt 9,qt 10,qt 11,qt 12,qt 13,qt 14,qt 15,qt 16,qt 17,qt 18,ld 19] ?_
          refine s_1 ?_
          refine rq rfl (qv_ias UL.out SZ.out e_vm hkv rfl o_m o_m) ?_
          refine rq rfl (qv_fas FI.out rfl hkv o_m o_m) ?_
          refine rq rfl (qv_ldf PL.out rfl hkv o_m o_m o_m (prcs_el (o := 0) o_m o_m o_m rfl)) ?_
          refine s_1 ?_
          refine rq rfl (qv_ias UL.out SZ.out e_vm hkv rfl o_m o_m) ?_
          refine rq rfl (qv_fas FI.out rfl hkv o_m o_m) ?_
          refine rq rfl (qv_ldf PL.out rfl hkv o_m o_m o_m (prcs_el (o := 0) o_m o_m o_m rfl)) ?_
          refine s_2 ?_
          refine rq rfl (qv_ias UL.out SZ.out e_vm hkv rfl o_m o_m) ?_
          refine rq rfl (qv_fas FI.out rfl hkv o_m o_m) ?_
          refine rq rfl (qv_ldf PL.out rfl hkv o_m o_m o_m (prcs_el (o := 1) o_m o_m o_m rfl)) ?_
          refine s_1 ?_
          refine rq rfl (qv_ias UL.out SZ.out e_vm hkv rfl o_m o_m) ?_
          refine rq rfl (qv_fas FI.out rfl hkv o_m o_m) ?_
          refine rq rfl (qv_ldf PL.out rfl hkv o_m o_m o_m (prcs_el (o := 1) o_m o_m o_m rfl)) ?_
          refine s_1 ?_
          refine rq rfl (qv_build (out := [(.int .i64 (if ((pg K (1)).1) < ((pg K (0)).1) then (pg K (1)).1 else (pg K (0)).1)), (.int .i64 (if ((pg K (1)).2) < ((pg K (0)).2) then (pg K (1)).2 else (pg K (0)).2))]) BI.out [(0, [(.int .i64 (if ((pg K (1)).1) < ((pg K (0)).1) then (pg K (1)).1 else (pg K (0)).1))]), (1, [(.int .i64 (if ((pg K (1)).2) < ((pg K (0)).2) then (pg K (1)).2 else (pg K (0)).2))])] rfl rfl) ?_
          refine rl_o ?_
          refine s_1 ?_
          refine on1 ?_
          refine s_3 ?_
          refine rs1 _ (r_va rfl) ?_
          exact (aggc (consc (c_i (by rw [c13]; first | (show _ = mnI _ _; unfold mnI; (repeat' split) <;> first | rfl | omega) | (show _ = mxI _ _; unfold mxI; (repeat' split) <;> first | rfl | omega))) (consc (c_i (by rw [c13]; first | (show _ = mnI _ _; unfold mnI; (repeat' split) <;> first | rfl | omega) | (show _ = mxI _ _; unfold mxI; (repeat' split) <;> first | rfl | omega))) rfl)))
         ·
          refine s_5 ?_
          refine iff' ?_ ?_ <;> intro c14
          ·
           refine s_1 ?_
           have hln := kb2 hkb o_m
           obtain ⟨ga1, ga2, ga3⟩ := hg 0
           obtain ⟨gb1, gb2, gb3⟩ := hg 1
           refine ro1 [qt 0,qt 1,qt 2,qt 3,qt 4,qt 5,qt 6,qt 7,qt 8,qt 9,qt 10,qt 11,qt 12,qt 13,qt 14,qt 15,qt 16,qt 17,qt 18,ld 19] ?_
           refine s_1 ?_
           refine rq rfl (qv_ias UL.out SZ.out e_vm hkv rfl o_m o_m) ?_
           refine rq rfl (qv_fas FI.out rfl hkv o_m o_m) ?_
           refine rq rfl (qv_ldf PL.out rfl hkv o_m o_m o_m (prcs_el (o := 0) o_m o_m o_m rfl)) ?_
           refine s_1 ?_
           refine rq rfl (qv_ias UL.out SZ.out e_vm hkv rfl o_m o_m) ?_
           refine rq rfl (qv_fas FI.out rfl hkv o_m o_m) ?_
           refine rq rfl (qv_ldf PL.out rfl hkv o_m o_m o_m (prcs_el (o := 0) o_m o_m o_m rfl)) ?_
           refine s_2 ?_
           refine rq rfl (qv_ias UL.out SZ.out e_vm hkv rfl o_m o_m) ?_
           refine rq rfl (qv_fas FI.out rfl hkv o_m o_m) ?_
           refine rq rfl (qv_ldf PL.out rfl hkv o_m o_m o_m (prcs_el (o := 1) o_m o_m o_m rfl)) ?_
           refine s_1 ?_
           refine rq rfl (qv_ias UL.out SZ.out e_vm hkv rfl o_m o_m) ?_
           refine rq rfl (qv_fas FI.out rfl hkv o_m o_m) ?_
           refine rq rfl (qv_ldf PL.out rfl hkv o_m o_m o_m (prcs_el (o := 1) o_m o_m o_m rfl)) ?_
           refine s_1 ?_
           refine rq rfl (qv_build (out := [(.int .i64 (if ((pg K (0)).1) < ((pg K (1)).1) then (pg K (1)).1 else (pg K (0)).1)), (.int .i64 (if ((pg K (0)).2) < ((pg K (1)).2) then (pg K (1)).2 else (pg K (0)).2))]) BI.out [(0, [(.int .i64 (if ((pg K (0)).1) < ((pg K (1)).1) then (pg K (1)).1 else (pg K (0)).1))]), (1, [(.int .i64 (if ((pg K (0)).2) < ((pg K (1)).2) then (pg K (1)).2 else (pg K (0)).2))])] rfl rfl) ?_
           refine rl_o ?_
           refine s_1 ?_
           refine on1 ?_
           refine s_3 ?_
           refine rs1 _ (r_va rfl) ?_
           exact (aggc (consc (c_i (by rw [c14]; first | (show _ = mnI _ _; unfold mnI; (repeat' split) <;> first | rfl | omega) | (show _ = mxI _ _; unfold mxI; (repeat' split) <;> first | rfl | omega))) (consc (c_i (by rw [c14]; first | (show _ = mnI _ _; unfold mnI; (repeat' split) <;> first | rfl | omega) | (show _ = mxI _ _; unfold mxI; (repeat' split) <;> first | rfl | omega))) rfl)))
          ·
           refine s_6 ?_
           refine iff' ?_ ?_ <;> intro c15
           ·
            refine s_1 ?_
            refine i_ft c15 ?_
            refine s_1 ?_
            have hln : 2 ≤ (K.length : Int) := by first | (have := kb3 hkb (by assumption); omega) | exact (kb4 hkb (by assumption)).1
            have hkd : Prs V (dropR kv (2 : Int).toNat 2) (K.drop 2) := hkv.drop (by show 2 ≤ K.length; omega)
            have hld : (K.drop 2).length = K.length - 2 := List.length_drop
            have hbd := SlS.bound hkd
            refine s_2 ?_
            refine oq (qv_ias UL.out SZ.out e_vm hkv rfl o_m o_m) ?_
            refine oq (qv_lds AG.out rfl hkv o_m o_m (prcs_at o_m o_m)) ?_
            refine a_lo fun b4 => ?_
            refine s_6 ?_
            refine oq (qv_sliceLoR UL.out SZ.out e_vm hkv rfl o_m o_m) ?_
            refine oq (qv_lenSS UL.out rfl hkd) ?_
            refine s_3 ?_
            refine lp1 [0,1,2,4,6,9,13,14,21,36,49,70,91,100,130,158,179,200,207,208] (fun (i : Int) => [(209, (Value.int .i64 i))]) (fun i => [(Arr 76 b1 [(.int .i64 t.op), (.int .i64 t.n), ks]), (Arr 232 b2 [(Value.int .i64 0), (Value.int .i64 0)]), (Arr 232 b4 [(.int .i64 ((hulL (pg K 1) ((K.drop 2).take i.toNat)).1)), (.int .i64 ((hulL (pg K 1) ((K.drop 2).take i.toNat)).2))])]) (fun i => 0 ≤ i ∧ i ≤ (K.drop 2).length) (fun i => ((K.drop 2).length - i).toNat) 0 ?_ ?_ ?_ ?_ 
            · exact ⟨rfl, trivial⟩
            · (rfl)
            · exact ⟨by omega, by omega⟩
            rintro i e2 ⟨i1, i2⟩
            refine s_5 ?_
            refine iff' ?_ ?_ <;> intro c16
            ·
             refine s_5 ?_
             refine oq (qv_ias UL.out SZ.out e_vm hkd rfl o_m o_m) ?_
             refine oq (qv_lds AG.out rfl hkd o_m o_m (prcs_at o_m o_m)) ?_
             refine a_lo fun b5 => ?_
             refine s_5 ?_
             refine oq (f_c (hull_c) rfl rfl) ?_
             refine s_2 ?_
             refine v_d 3 ?_
             refine s_4 ?_
             exact le1 (i + 1) ⟨(c_i o_m), trivial⟩ ⟨by omega, by omega⟩ (hr := by rw [hulL_take (L := K.drop 2) i1 o_m])
            ·
             refine s_9 ?_
             refine rs1 _ (r_va rfl) ?_
             exact (aggc (consc (c_i (by first | (rw [show t.op = 23 by assumption, List.take_of_length_le (by rw [List.length_drop]; omega)]; rfl) | (rw [show t.op = 25 by assumption, List.take_of_length_le (by rw [List.length_drop]; omega)]; rfl))) (consc (c_i (by first | (rw [show t.op = 23 by assumption, List.take_of_length_le (by rw [List.length_drop]; omega)]; rfl) | (rw [show t.op = 25 by assumption, List.take_of_length_le (by rw [List.length_drop]; omega)]; rfl))) rfl)))
           ·
            refine s_4 ?_
            refine iff' ?_ ?_ <;> intro c17
            ·
             refine s_1 ?_
             have hln : 2 ≤ (K.length : Int) := by first | (have := kb3 hkb (by assumption); omega) | exact (kb4 hkb (by assumption)).1
             have hkd : Prs V (dropR kv (2 : Int).toNat 2) (K.drop 2) := hkv.drop (by show 2 ≤ K.length; omega)
             have hld : (K.drop 2).length = K.length - 2 := List.length_drop
             have hbd := SlS.bound hkd
             refine s_2 ?_
             refine oq (qv_ias UL.out SZ.out e_vm hkv rfl o_m o_m) ?_
             refine oq (qv_lds AG.out rfl hkv o_m o_m (prcs_at o_m o_m)) ?_
             refine a_lo fun b6 => ?_
             refine s_6 ?_
             refine oq (qv_sliceLoR UL.out SZ.out e_vm hkv rfl o_m o_m) ?_
             refine oq (qv_lenSS UL.out rfl hkd) ?_
             refine s_3 ?_
             refine lp1 [0,1,2,4,6,9,13,14,21,36,49,70,91,100,130,158,179,200,207,208] (fun (i : Int) => [(209, (Value.int .i64 i))]) (fun i => [(Arr 76 b1 [(.int .i64 t.op), (.int .i64 t.n), ks]), (Arr 232 b2 [(Value.int .i64 0), (Value.int .i64 0)]), (Arr 232 b6 [(.int .i64 ((hulL (pg K 1) ((K.drop 2).take i.toNat)).1)), (.int .i64 ((hulL (pg K 1) ((K.drop 2).take i.toNat)).2))])]) (fun i => 0 ≤ i ∧ i ≤ (K.drop 2).length) (fun i => ((K.drop 2).length - i).toNat) 0 ?_ ?_ ?_ ?_ 
             · exact ⟨rfl, trivial⟩
             · (rfl)
             · exact ⟨by omega, by omega⟩
             rintro i e3 ⟨i1, i2⟩
             refine s_5 ?_
             refine iff' ?_ ?_ <;> intro c18
             ·
              refine s_5 ?_
              refine oq (qv_ias UL.out SZ.out e_vm hkd rfl o_m o_m) ?_
              refine oq (qv_lds AG.out rfl hkd o_m o_m (prcs_at o_m o_m)) ?_
              refine a_lo fun b7 => ?_
              refine s_5 ?_
              refine oq (f_c (hull_c) rfl rfl) ?_
              refine s_2 ?_
              refine v_d 3 ?_
              refine s_4 ?_
              exact le1 (i + 1) ⟨(c_i o_m), trivial⟩ ⟨by omega, by omega⟩ (hr := by rw [hulL_take (L := K.drop 2) i1 o_m])
             ·
              refine s_9 ?_
              refine rs1 _ (r_va rfl) ?_
              exact (aggc (consc (c_i (by first | (rw [show t.op = 23 by assumption, List.take_of_length_le (by rw [List.length_drop]; omega)]; rfl) | (rw [show t.op = 25 by assumption, List.take_of_length_le (by rw [List.length_drop]; omega)]; rfl))) (consc (c_i (by first | (rw [show t.op = 23 by assumption, List.take_of_length_le (by rw [List.length_drop]; omega)]; rfl) | (rw [show t.op = 25 by assumption, List.take_of_length_le (by rw [List.length_drop]; omega)]; rfl))) rfl)))
            ·
             refine s_3 ?_
             refine oq (qv_build (out := [(Value.int .i64 0), (Value.int .i64 1)]) BI.out [(0, [(Value.int .i64 0)]), (1, [(Value.int .i64 1)])] rfl rfl) ?_
             refine s_3 ?_
             refine rs1 _ (r_va rfl) ?_
             exact (aggc (consc (c_i (by rw [rul_e o_m])) (consc (c_i (by rw [rul_e o_m])) rfl)))

end Go.Proofs.YtbchkopkgpfkgaaGreatDoor

namespace Go.Proofs.YtbchkopkgpfkgaaGreatDoor
open Go.Vc
open Classical

/-- What the function does, for arguments of a size below k. -/
def RPC (k : Nat) : Prop := ∀ (V : HV) (t : Tm) (ks va : Value) (vs : List Vr) (inp : Bool), Tms V ks t.kids → Vrs V va vs → VarsOk vs → fmd vs inp t → rgo vs t → t.sz < k → FnC Tryz.prog 177 [va, .agg #[.int .i64 t.op, .int .i64 t.n, ks]] V [] (fun v _ _ => v = .tuple #[.agg #[.int .i64 (rg vs t).1, .int .i64 (rg vs t).2], .bool true])

set_option maxRecDepth 100000 in
set_option maxHeartbeats 4000000 in
theorem rangedP_step {V : HV} {t : Tm} {ks : Value} {va : Value} {vs : List Vr} {inp : Bool} {k : Nat} (IH : RPC k) (hT : Tms V ks t.kids) (hv : Vrs V va vs) (hV : VarsOk vs) (hf : fmd vs inp t) (hro : rgo vs t) (hk : t.sz < (k + 1 : Nat)) :
    FnC Tryz.prog 177 [va, (.agg #[(.int .i64 t.op), (.int .i64 t.n), ks])] V [] (fun v _ _ => v = .tuple #[(.agg #[(.int .i64 ((rg vs t).1)), (.int .i64 ((rg vs t).2))]), (Value.bool true)]) := by
 refine f_i Tryz.func177 ?_
 intro w0 D
 obtain ⟨kvs, hS, hK⟩ := hT
 have hT : Tms V ks t.kids := .mk kvs hS hK
 have hb := SlS.bound hS
 have hb2 := SlS.bound hv
 have hsk := sz_kids t
 have hff := (fmd_eq t).1 hf
 have hfk := fmdL_iff.1 hff.2.2
 have hrr := (rgo_eq t).1 hro
 have hrk := rgoL_iff.1 hrr.1
 have hln := kb_le hff.1
 refine s_2 ?_
 refine b_ox fun b1 => ?_
 refine a_lo fun b2 => ?_
 refine s_3 ?_
 refine vc_nil 232 2 ?_
 refine s_8 ?_
 refine oq (qv_lenSS UL.out rfl hS) ?_
 refine s_3 ?_
 refine lp2 [0,1,3,4,13,14] (fun (i : Int) (u : Value) => [(6, u), (15, (Value.int .i64 i))]) (fun i u => [(Arr 76 b1 [(.int .i64 t.op), (.int .i64 t.n), ks]), (Arr 232 b2 [(Value.int .i64 0), (Value.int .i64 0)]), (Gr 232 2 u i.toNat ((prcs (rgL vs (t.kids.take i.toNat)))))]) (fun i u => 0 ≤ i ∧ i ≤ t.kids.length) (fun i u => (t.kids.length - i).toNat) 0 ((Value.slice none 0 0)) ?_ ?_ ?_ ?_ 
 · exact ⟨(by first | rfl | (first | omega | simp)), rfl, trivial⟩
 · (rfl)
 · exact ⟨by omega, by omega⟩
 rintro i u e1 ⟨i1, i2⟩
 refine s_5 ?_
 refine iff' ?_ ?_ <;> intro c1
 ·
  refine s_5 ?_
  refine oq (qv_ias UL.out SZ.out e_vm hS rfl o_m o_m) ?_
  refine oq (qv_lds AG.out rfl hS o_m o_m (tmcs_at o_m o_m)) ?_
  refine a_lo fun b3 => ?_
  refine s_tw rfl rfl (allc rfl (allc rfl (allc (Tms.one (hK (i) o_m o_m)) rfl))) ?_
  refine s_2 ?_
  have hsz := szL_at (l := t.kids) i1 o_m
  have hsn := szL_nn (t.kids.take i.toNat)
  refine s_3 ?_
  refine oq (f_c (IH _ _ _ _ _ _ (hK i i1 o_m) hv hV (hfk i i1 o_m) (hrk i i1 o_m) o_m) rfl rfl) ?_
  refine s_3 ?_
  refine a_lo fun b4 => ?_
  refine s_14 ?_
  refine ops_lit (n := 1) (s := 2) (cs := [(.int .i64 ((rg vs (tm t.kids (i))).1)), (.int .i64 ((rg vs (tm t.kids (i))).2))]) UL.out TZ.out (l_b rfl) rfl rfl rfl (l_b rfl) rfl (fun b5 => ?_)
  refine a_po rfl rfl rfl o_c o_m m_x fun v1 hn1 => ?_
  refine s_2 ?_
  refine v_d 5 ?_
  refine v_d 4 ?_
  refine v_d 3 ?_
  refine s_4 ?_
  exact le2 (i + 1) v1 ⟨rfl, (c_i o_m), trivial⟩ ⟨by omega, by omega⟩ (hr := by rw [show (i + 1).toNat = i.toNat + 1 by omega, rgL_take i1 o_m, prcs_snoc]; rfl)
 ·
  refine s_3 ?_
  refine v_fS 2 fun Vf1 hVf1 hc1 => ?_
  have hT := hT.mono hVf1
  have hv := hv.mono hVf1
  refine s_4 ?_
  have hwi : wiM (rul vs t.op t.n (rgL vs t.kids)) := by have q := hrr.2; rwa [rg_eq] at q
  have hkv : Prs Vf1 u (rgL vs t.kids) := by have q := hc1; rw [List.take_of_length_le o_m] at q; unfold Prs; rw [rgL_len, show t.kids.length = i.toNat by omega]; exact q
  refine oq (f_c (ruleP_c (inp := inp) (K := rgL vs t.kids) hv hkv (rgL_gd hV t.kids hff.2.2 hrr.1) (by rw [rgL_len]; exact hff.1) hff.2.1 hwi hT) rfl rfl) ?_
  refine a_lo fun b6 => ?_
  refine s_3 ?_
  refine rom [qt 0,qt 1,qt 2,qt 3,qt 4,qt 5,qt 6,qt 7,qt 8,ld 9,qt 10] [0,1] ?_
  refine s_5 ?_
  by_cases g1 : ((-1048576)) ≤ ((rul vs t.op t.n (rgL vs t.kids)).1)
  ·
   refine re rfl (qv_fa (off := 0) Tryz.field232_1 rfl) (want_t g1 rfl rfl rfl) ?_
   refine re rfl (qv_ldp (v := (.int .i64 ((rul vs t.op t.n (rgL vs t.kids)).2))) Tryz.plain3 rfl (inOc (k := 1) rfl) rfl) (want_t g1 rfl rfl rfl) ?_
   refine re rfl (qv_leq rfl rfl) (want_t g1 rfl rfl rfl) ?_
   refine s_1 ?_
   refine rl_q ?_
   refine s_1 ?_
   refine on2 [0,1] (Sub.refl _) ?_
   refine s_3 ?_
   refine rs2 _ (.bool (decide (((rul vs t.op t.n (rgL vs t.kids)).2) ≤ 1048576))) (r_va rfl) (rv_t rfl) ?_
   exact tup2 (aggc (consc (c_i (by rw [rg_eq])) (consc (c_i (by rw [rg_eq])) rfl))) (jdt (by have q := hrr.2; rw [rg_eq] at q; first | exact q.2 | exact absurd q.1 (by assumption)))
  ·
   refine rs rfl (want_tn g1 rfl rfl rfl) ?_
   refine rs rfl (want_tn g1 rfl rfl rfl) ?_
   refine rs rfl (want_tn g1 rfl rfl rfl) ?_
   refine s_1 ?_
   refine rl_q ?_
   refine s_1 ?_
   refine on2 [0,1] (Sub.refl _) ?_
   refine s_3 ?_
   refine rs2 _ (Value.bool false) (r_va rfl) (rv_t rfl) ?_
   exact tup2 (aggc (consc (c_i (by rw [rg_eq])) (consc (c_i (by rw [rg_eq])) rfl))) (by first | rfl | (have q := hrr.2; rw [rg_eq] at q; first | exact q.2 | exact absurd q.1 (by assumption)))

theorem rangedP_c : ∀ k, RPC k
  | 0 => fun _ t _ _ _ _ _ _ _ _ _ h => absurd h (by have := t.sz_pos; omega)
  | k + 1 => fun V t ks va vs inp hT hv hV hf hr hk => rangedP_step (rangedP_c k) hT hv hV hf hr hk
set_option maxRecDepth 100000 in
set_option maxHeartbeats 4000000 in
theorem termCode_c {V : HV} {t : Tm} {ks : Value} {va : Value} {vs : List Vr} {inp : Bool} (hT : Tms V ks t.kids) (hv : Vrs V va vs) (hV : VarsOk vs) (hf : fmd vs inp t) (hro : rgo vs t) :
    FnC Tryz.prog 142 [va, (.agg #[(.int .i64 t.op), (.int .i64 t.n), ks]), (.bool (decide (inp = true)))] V [] (fun v _ _ => v = (Value.int .i64 0)) := by
 refine f_i Tryz.func142 ?_
 intro w0 D
 have hT0 := hT
 obtain ⟨kvs, hS, hK⟩ := hT
 refine s_2 ?_
 refine b_ox fun b1 => ?_
 refine s_8 ?_
 refine oq (f_c (formedP_c (t.sz.toNat + 1) _ _ _ _ _ _ hT0 hv hf o_m) rfl rfl) ?_
 refine s_9 ?_
 refine oq (f_c (rangedP_c (t.sz.toNat + 1) _ _ _ _ _ inp hT0 hv hV hf hro o_m) rfl rfl) ?_
 refine s_3 ?_
 refine a_lo fun b2 => ?_
 refine s_15 ?_
 exact rt1 rfl

end Go.Proofs.YtbchkopkgpfkgaaGreatDoor

namespace Go.Proofs.YtbchkopkgpfkgaaGreatDoor
open Go.Vc
open Classical

set_option maxRecDepth 100000 in
set_option maxHeartbeats 4000000 in
theorem usesVar_c {V : HV} {o : Int} :
    FnC Tryz.prog 178 [(Value.int .i64 o)] V [] (fun v _ _ => v = (.bool (decide (o = 0 ∨ o = 5)))) := by
 refine f_i Tryz.func178 ?_
 intro w0 D
 refine s_5 ?_
 refine j_n [] [(2, (.bool (decide ((o = 0) ∨ (o = 5)))))] ?_ (fun e1 => ?_)
 ·
  refine s_4 ?_
  by_cases g1 : o = 0
  ·
   refine s_5 ?_
   exact j_e ⟨(jt (.inl g1)), trivial⟩
  ·
   refine s_5 ?_
   exact j_e ⟨(jb (jo g1 Iff.rfl)), trivial⟩
 refine s_1 ?_
 exact rt1 (jb o_m)

set_option maxRecDepth 100000 in
set_option maxHeartbeats 4000000 in
theorem usesN_c {V : HV} {o : Int} :
    FnC Tryz.prog 179 [(Value.int .i64 o)] V [] (fun v _ _ => v = (.bool (decide (o = 4 ∨ o = 5)))) := by
 refine f_i Tryz.func179 ?_
 intro w0 D
 refine s_5 ?_
 refine j_n [] [(2, (.bool (decide ((o = 4) ∨ (o = 5)))))] ?_ (fun e1 => ?_)
 ·
  refine s_4 ?_
  by_cases g1 : o = 4
  ·
   refine s_5 ?_
   exact j_e ⟨(jt (.inl g1)), trivial⟩
  ·
   refine s_5 ?_
   exact j_e ⟨(jb (jo g1 Iff.rfl)), trivial⟩
 refine s_1 ?_
 exact rt1 (jb o_m)

set_option maxRecDepth 100000 in
set_option maxHeartbeats 4000000 in
theorem usesTerm_c {V : HV} {o : Int} :
    FnC Tryz.prog 180 [(Value.int .i64 o)] V [] (fun v _ _ => v = (.bool (decide (o = 0 ∨ o = 1 ∨ o = 3 ∨ o = 4)))) := by
 refine f_i Tryz.func180 ?_
 intro w0 D
 refine s_5 ?_
 refine j_n [] [(2, (.bool (decide ((((o = 0) ∨ (o = 1)) ∨ (o = 3)) ∨ (o = 4)))))] ?_ (fun e1 => ?_)
 ·
  refine s_4 ?_
  by_cases g1 : o = 0
  ·
   refine s_13 ?_
   exact j_e ⟨(jt (.inl (.inl (.inl g1)))), trivial⟩
  ·
   refine s_4 ?_
   by_cases g2 : o = 1
   ·
    refine s_9 ?_
    exact j_e ⟨(jt (.inl (.inl ((jo g1 Iff.rfl).1 g2)))), trivial⟩
   ·
    refine s_4 ?_
    by_cases g3 : o = 3
    ·
     refine s_5 ?_
     exact j_e ⟨(jt (.inl ((jo (fun z => g2 ((jo g1 Iff.rfl).2 z)) Iff.rfl).1 g3))), trivial⟩
    ·
     refine s_5 ?_
     exact j_e ⟨(jb (jo (fun z => g3 ((jo (fun z => g2 ((jo g1 Iff.rfl).2 z)) Iff.rfl).2 z)) Iff.rfl)), trivial⟩
 refine s_1 ?_
 exact rt1 (jb o_m)

set_option maxRecDepth 100000 in
set_option maxHeartbeats 4000000 in
theorem zeroTerm_c {V : HV} {t : Tm} {ks : Value} (hT : Tms V ks t.kids) :
    FnC Tryz.prog 181 [(.agg #[(.int .i64 t.op), (.int .i64 t.n), ks])] V [] (fun v _ _ => v = (.bool (decide (pln t)))) := by
 refine f_i Tryz.func181 ?_
 intro w0 D
 obtain ⟨kvs, hS, hK⟩ := hT
 refine s_2 ?_
 refine b_ox fun b1 => ?_
 refine s_3 ?_
 refine j_n [0] [(2, (.bool (decide (((t.op = 0) ∧ (t.n = 0)) ∧ (((t.kids.length : Int)) = 0)))))] ?_ (fun e1 => ?_)
 ·
  refine s_5 ?_
  by_cases g1 : t.op = 0
  ·
   refine s_5 ?_
   by_cases g2 : t.n = 0
   ·
    refine s_2 ?_
    refine og (qv_lenSS UL.out rfl hS) w_a ?_
    refine s_4 ?_
    exact j_e ⟨(jb (ja ((ja g1 Iff.rfl).1 g2) Iff.rfl)), trivial⟩
   ·
    refine s_7 ?_
    exact j_e ⟨(jf (fun z => (fun z => g2 ((ja g1 Iff.rfl).2 z)) z.1)), trivial⟩
  ·
   refine s_12 ?_
   exact j_e ⟨(jf (fun z => (fun z => g1 z.1) z.1)), trivial⟩
 refine s_1 ?_
 exact rt1 (jb (by exact Iff.rfl))

set_option maxRecDepth 100000 in
set_option maxHeartbeats 4000000 in
theorem risingP_c {V : HV} {l : List Int} {lv : Value} (hl : Ints .i64 V lv l) :
    FnC Tryz.prog 182 [lv] V [] (fun v _ _ => v = (.bool (decide (risP l)))) := by
 refine f_i Tryz.func182 ?_
 intro w0 D
 have hb := hl.bound
 refine s_8 ?_
 refine oq (qv_lenI UL.out rfl hl) ?_
 refine s_3 ?_
 refine lc1 [0,5] (fun (i : Int) => [(6, (Value.int .i64 i))]) (fun i => 0 ≤ i ∧ i ≤ l.length ∧ ∀ x : Int, 1 ≤ x → x < i → ¬ gi l x ≤ gi l (x - 1)) (fun i => (l.length - i).toNat) 0 ?_ ?_ ?_ 
 · exact ⟨rfl, trivial⟩
 · exact ⟨by omega, by omega, fun x a b => by omega⟩
 rintro i e1 ⟨i1, i2, hno⟩
 refine s_5 ?_
 refine iff' ?_ ?_ <;> intro c1
 ·
  refine s_9 ?_
  refine j_n [0,3,5,6,7] [(22, (.bool (decide ((0 < i) ∧ ((gi l (i)) ≤ (gi l (i - 1)))))))] ?_ (fun e2 => ?_)
  ·
   refine s_4 ?_
   by_cases g1 : 0 < i
   ·
    refine s_2 ?_
    refine qg (qv_iai UL.out SZ.out e_vm (inVi hl) rfl o_m o_m) w_a ?_
    refine qg (qv_ldi PL.out rfl (inVi hl) o_m o_m) w_a ?_
    refine s_3 ?_
    refine qg (qv_iai UL.out SZ.out e_vm (inVi hl) rfl o_m o_m) w_a ?_
    refine qg (qv_ldi PL.out rfl (inVi hl) o_m o_m) w_a ?_
    refine s_3 ?_
    exact j_e ⟨(jb (ja g1 Iff.rfl)), trivial⟩
   ·
    refine s_12 ?_
    exact j_e ⟨(jf (fun z => g1 z.1)), trivial⟩
  refine iff' ?_ ?_ <;> intro c2
  ·
   refine s_7 ?_
   exact rt1 (jf (by intro q; exact q i o_m o_m o_m))
  ·
   refine s_5 ?_
   exact le1 (i + 1) ⟨(c_i o_m), trivial⟩ ⟨by omega, by omega, fun x a b => by
         by_cases e : x = i
         · subst e; first | assumption | omega
         · exact hno x a o_m⟩
 ·
  refine s_7 ?_
  exact rt1 (jt (by exact fun x a b => hno x a o_m))

set_option maxRecDepth 100000 in
set_option maxHeartbeats 4000000 in
theorem shapedP_c {V : HV} {va ha ba : Value} {F : Fl} (hF : Fls V va ha ba F) {s : St} {ks tv lv bv : Value} (hT : Tms V ks s.tm.kids) (hth : Sts V tv s.thn) (hel : Sts V lv s.els) (hbv : Ints .i64 V bv s.bds) {p last : Prop} [Decidable p] (hpp : p ↔ last) (hsh : shpP F s last) :
    FnC Tryz.prog 143 [(.agg #[va, ha, ba]), (.agg #[(.int .i64 s.dk), (.int .i64 s.cost), (.int .i64 s.var), (.int .i64 s.n), (.int .i64 s.tm.op), (.int .i64 s.tm.n), ks, tv, lv, bv]), (.bool (decide (p)))] V [] (fun v _ _ => v = (Value.bool true)) := by
 refine f_i Tryz.func143 ?_
 intro w0 D
 obtain ⟨hvs, hH⟩ := hF.h
 obtain ⟨xB, hB⟩ := hF.b.sl
 have hbvv := SlS.bound hF.v
 have hbh := SlS.bound hH.sl
 have hbb := SlS.bound hB
 have hT0 := hT
 obtain ⟨kvs, hS, hK⟩ := hT
 obtain ⟨xst, hst⟩ := hth.sl
 obtain ⟨xse, hse⟩ := hel.sl
 have hnu := shp_num hsh
 have hpl := shp_pln hsh
 have hs6 := shp_s hsh
 refine s_2 ?_
 refine b_ox fun b1 => ?_
 refine b_ox fun b2 => ?_
 refine s_12 ?_
 refine j_n [0,1,2,3,4,6,7] [(10, (.bool (decide ((s.dk < 0) ∨ (6 < s.dk)))))] ?_ (fun e1 => ?_)
 ·
  refine s_4 ?_
  by_cases g1 : s.dk < 0
  ·
   refine s_5 ?_
   exact j_e ⟨(jt (.inl g1)), trivial⟩
  ·
   refine s_5 ?_
   exact j_e ⟨(jb (jo g1 Iff.rfl)), trivial⟩
 refine iff' ?_ ?_ <;> intro c1
 ·
  omega
 ·
  refine s_1 ?_
  refine j_n [0,1,2,3,4,6,7] [(10, (.bool (decide ((¬ (s.dk = 0 ∨ s.dk = 5)) ∧ (s.var ≠ 0)))))] ?_ (fun e2 => ?_)
  ·
   refine s_2 ?_
   refine oq (f_c (usesVar_c) rfl rfl) ?_
   refine s_2 ?_
   by_cases g2 : ¬ (s.dk = 0 ∨ s.dk = 5)
   ·
    refine s_6 ?_
    exact j_e ⟨(jb (ja g2 Iff.rfl)), trivial⟩
   ·
    refine s_6 ?_
    exact j_e ⟨(jf (fun z => g2 z.1)), trivial⟩
  refine iff' ?_ ?_ <;> intro c2
  ·
   omega
  ·
   refine s_1 ?_
   refine j_n [0,1,2,3,4,6,7] [(10, (.bool (decide ((¬ (s.dk = 4 ∨ s.dk = 5)) ∧ (s.n ≠ 0)))))] ?_ (fun e3 => ?_)
   ·
    refine s_2 ?_
    refine oq (f_c (usesN_c) rfl rfl) ?_
    refine s_2 ?_
    by_cases g3 : ¬ (s.dk = 4 ∨ s.dk = 5)
    ·
     refine s_6 ?_
     exact j_e ⟨(jb (ja g3 Iff.rfl)), trivial⟩
    ·
     refine s_6 ?_
     exact j_e ⟨(jf (fun z => g3 z.1)), trivial⟩
   refine iff' ?_ ?_ <;> intro c3
   ·
    omega
   ·
    refine s_1 ?_
    refine j_n [0,1,2,3,4,6,7] [(10, (.bool (decide ((¬ (s.dk = 0 ∨ s.dk = 1 ∨ s.dk = 3 ∨ s.dk = 4)) ∧ (¬ (pln s.tm))))))] ?_ (fun e4 => ?_)
    ·
     refine s_2 ?_
     refine oq (f_c (usesTerm_c) rfl rfl) ?_
     refine s_2 ?_
     by_cases g4 : ¬ (s.dk = 0 ∨ s.dk = 1 ∨ s.dk = 3 ∨ s.dk = 4)
     ·
      refine s_2 ?_
      refine og (f_c (zeroTerm_c hT0) rfl rfl) w_a ?_
      refine s_4 ?_
      exact j_e ⟨(jb (ja g4 Iff.rfl)), trivial⟩
     ·
      refine s_7 ?_
      exact j_e ⟨(jf (fun z => g4 z.1)), trivial⟩
    refine iff' ?_ ?_ <;> intro c4
    ·
     exact absurd (hpl o_m) (by first | assumption | exact (by assumption : _ ∧ _).2)
    ·
     refine s_1 ?_
     refine j_n [0,1,2,3,4,6,7] [(10, (.bool (decide (((s.dk ≠ 3) ∧ (s.dk ≠ 4)) ∧ (0 < ((s.thn.length : Int)))))))] ?_ (fun e5 => ?_)
     ·
      refine s_4 ?_
      by_cases g5 : s.dk ≠ 3
      ·
       refine s_4 ?_
       by_cases g6 : s.dk ≠ 4
       ·
        refine s_2 ?_
        refine og (qv_lenSS UL.out rfl hst) w_a ?_
        refine s_4 ?_
        exact j_e ⟨(jb (ja ((ja g5 Iff.rfl).1 g6) Iff.rfl)), trivial⟩
       ·
        refine s_7 ?_
        exact j_e ⟨(jf (fun z => (fun z => g6 ((ja g5 Iff.rfl).2 z)) z.1)), trivial⟩
      ·
       refine s_11 ?_
       exact j_e ⟨(jf (fun z => (fun z => g5 z.1) z.1)), trivial⟩
     refine iff' ?_ ?_ <;> intro c5
     ·
      omega
     ·
      refine s_1 ?_
      refine j_n [0,1,2,3,4,6,7] [(10, (.bool (decide ((s.dk ≠ 3) ∧ (0 < ((s.els.length : Int)))))))] ?_ (fun e6 => ?_)
      ·
       refine s_4 ?_
       by_cases g7 : s.dk ≠ 3
       ·
        refine s_2 ?_
        refine og (qv_lenSS UL.out rfl hse) w_a ?_
        refine s_4 ?_
        exact j_e ⟨(jb (ja g7 Iff.rfl)), trivial⟩
       ·
        refine s_7 ?_
        exact j_e ⟨(jf (fun z => g7 z.1)), trivial⟩
      refine iff' ?_ ?_ <;> intro c6
      ·
       omega
      ·
       refine s_1 ?_
       refine j_n [0,1,2,3,4,6,7] [(10, (.bool (decide ((s.dk ≠ 6) ∧ (0 < ((s.bds.length : Int)))))))] ?_ (fun e7 => ?_)
       ·
        refine s_4 ?_
        by_cases g8 : s.dk ≠ 6
        ·
         refine s_2 ?_
         refine og (qv_lenI UL.out rfl hbv) w_a ?_
         refine s_4 ?_
         exact j_e ⟨(jb (ja g8 Iff.rfl)), trivial⟩
        ·
         refine s_7 ?_
         exact j_e ⟨(jf (fun z => g8 z.1)), trivial⟩
       refine iff' ?_ ?_ <;> intro c7
       ·
        omega
       ·
        refine s_1 ?_
        refine j_n [0,1,2,3,4,6,7] [(10, (.bool (decide ((s.dk = 0 ∨ s.dk = 5) ∧ (((s.var < 0) ∨ (((F.vs.length : Int)) ≤ s.var)) ∨ (((vr F.vs (s.var)).kd) ≠ 0))))))] ?_ (fun e8 => ?_)
        ·
         refine s_2 ?_
         refine oq (f_c (usesVar_c) rfl rfl) ?_
         refine s_1 ?_
         by_cases g9 : s.dk = 0 ∨ s.dk = 5
         ·
          refine s_4 ?_
          by_cases g10 : s.var < 0
          ·
           refine s_20 ?_
           exact j_e ⟨(jt ⟨g9, (.inl (.inl g10))⟩), trivial⟩
          ·
           refine s_4 ?_
           refine og (qv_lenSS UL.out rfl hF.v) w_a ?_
           refine s_3 ?_
           by_cases g11 : ((F.vs.length : Int)) ≤ s.var
           ·
            refine s_12 ?_
            exact j_e ⟨(jt ⟨g9, (.inl ((jo g10 Iff.rfl).1 g11))⟩), trivial⟩
           ·
            refine s_4 ?_
            refine og (qv_ias UL.out SZ.out e_vm hF.v rfl o_m o_m) w_a ?_
            refine og (qv_fas FI.out rfl hF.v o_m o_m) w_a ?_
            refine og (qv_ldf PL.out rfl hF.v o_m o_m o_m (vrcs_el (o := 1) o_m o_m o_m rfl)) w_a ?_
            refine s_5 ?_
            exact j_e ⟨(jb (ja g9 (jo (fun z => g11 ((jo g10 Iff.rfl).2 z)) Iff.rfl))), trivial⟩
         ·
          refine s_24 ?_
          exact j_e ⟨(jf (fun z => g9 z.1)), trivial⟩
        refine iff' ?_ ?_ <;> intro c8
        ·
         omega
        ·
         refine j_n [0,1,2,3,4,6,7] [(10, (.bool (decide ((s.dk = 5) ∧ ((s.n < 0) ∨ (((F.hs.length : Int)) ≤ s.n))))))] ?_ (fun e9 => ?_)
         ·
          refine s_4 ?_
          by_cases g12 : s.dk = 5
          ·
           refine s_4 ?_
           by_cases g13 : s.n < 0
           ·
            refine s_10 ?_
            exact j_e ⟨(jt ⟨g12, (.inl g13)⟩), trivial⟩
           ·
            refine s_4 ?_
            refine og (qv_lenSS UL.out rfl hH.sl) w_a ?_
            refine s_5 ?_
            exact j_e ⟨(jb (ja g12 (jo g13 Iff.rfl))), trivial⟩
          ·
           refine s_14 ?_
           exact j_e ⟨(jf (fun z => g12 z.1)), trivial⟩
         refine iff' ?_ ?_ <;> intro c9
         ·
          omega
         ·
          refine s_2 ?_
          refine j_n [0,1,3,4,7,10] [(6, (.bool (decide ((s.dk ≠ 6) ∨ (((((p) ∧ (0 < ((s.bds.length : Int)))) ∧ (((s.bds.length : Int)) ≤ 32)) ∧ (0 ≤ (gi s.bds (0)))) ∧ (risP s.bds))))))] ?_ (fun e10 => ?_)
          ·
           refine s_4 ?_
           by_cases g14 : s.dk ≠ 6
           ·
            refine s_28 ?_
            exact j_e ⟨(jt (.inl g14)), trivial⟩
           ·
            refine s_2 ?_
            by_cases g15 : p
            ·
             refine s_2 ?_
             refine og (qv_lenI UL.out rfl hbv) w_a ?_
             refine s_3 ?_
             by_cases g16 : 0 < ((s.bds.length : Int))
             ·
              refine s_2 ?_
              refine og (qv_lenI UL.out rfl hbv) w_a ?_
              refine s_3 ?_
              by_cases g17 : ((s.bds.length : Int)) ≤ 32
              ·
               refine s_2 ?_
               refine og (qv_iai UL.out SZ.out e_vm (inVi hbv) rfl o_m o_m) w_a ?_
               refine og (qv_ldi PL.out rfl (inVi hbv) o_m o_m) w_a ?_
               refine s_3 ?_
               by_cases g18 : 0 ≤ (gi s.bds (0))
               ·
                refine s_2 ?_
                refine og (f_c (risingP_c hbv) rfl rfl) w_a ?_
                refine s_4 ?_
                exact j_e ⟨(jb (jo g14 (ja ((ja ((ja ((ja g15 Iff.rfl).1 g16) Iff.rfl).1 g17) Iff.rfl).1 g18) Iff.rfl))), trivial⟩
               ·
                refine s_7 ?_
                exact j_e ⟨(jf (fun z => z.elim g14 (fun z => (fun z => g18 ((ja ((ja ((ja g15 Iff.rfl).1 g16) Iff.rfl).1 g17) Iff.rfl).2 z)) z.1))), trivial⟩
              ·
               refine s_14 ?_
               exact j_e ⟨(jf (fun z => z.elim g14 (fun z => (fun z => (fun z => g17 ((ja ((ja g15 Iff.rfl).1 g16) Iff.rfl).2 z)) z.1) z.1))), trivial⟩
             ·
              refine s_20 ?_
              exact j_e ⟨(jf (fun z => z.elim g14 (fun z => (fun z => (fun z => (fun z => g16 ((ja g15 Iff.rfl).2 z)) z.1) z.1) z.1))), trivial⟩
            ·
             refine s_26 ?_
             exact j_e ⟨(jf (fun z => z.elim g14 (fun z => (fun z => (fun z => (fun z => g15 z.1) z.1) z.1) z.1))), trivial⟩
          refine s_1 ?_
          exact rt1 (jdt (by first | exact (Classical.em (s.dk = 6)).elim (fun h6 => .inr ⟨⟨⟨⟨hpp.2 (hs6 h6).1, by omega⟩, by omega⟩, by omega⟩, (hs6 h6).2⟩) .inl | (exfalso; omega)))

set_option maxRecDepth 100000 in
set_option maxHeartbeats 4000000 in
theorem numbered_c {V : HV} {s : St} {ks tv lv bv : Value} (hT : Tms V ks s.tm.kids) (hth : Sts V tv s.thn) (hel : Sts V lv s.els) (hbv : Ints .i64 V bv s.bds) (hn1 : ¬ nmBad s) (hn2 : ¬ bdBad s) (hn3 : s.dk = 6 → 1 ≤ s.bds.length) :
    FnC Tryz.prog 144 [(.agg #[(.int .i64 s.dk), (.int .i64 s.cost), (.int .i64 s.var), (.int .i64 s.n), (.int .i64 s.tm.op), (.int .i64 s.tm.n), ks, tv, lv, bv])] V [] (fun v _ _ => v = (Value.bool true)) := by
 refine f_i Tryz.func144 ?_
 intro w0 D
 obtain ⟨kvs, hS, hK⟩ := hT
 obtain ⟨xst, hst⟩ := hth.sl
 obtain ⟨xse, hse⟩ := hel.sl
 have hbb := hbv.bound
 unfold nmBad limC at hn1
 unfold bdBad at hn2
 refine s_2 ?_
 refine b_ox fun b1 => ?_
 refine s_13 ?_
 refine iff' ?_ ?_ <;> intro c1
 ·
  refine s_5 ?_
  refine j_n [0,1,2,6] [(30, (.bool (decide (((s.cost < 0) ∨ (67108864 < s.cost)) ∨ ((s.dk = 4) ∧ ((s.n < 0) ∨ (4096 < s.n)))))))] ?_ (fun e1 => ?_)
  ·
   refine s_5 ?_
   by_cases g1 : s.cost < 0
   ·
    refine s_21 ?_
    exact j_e ⟨(jt (.inl (.inl g1))), trivial⟩
   ·
    refine s_6 ?_
    by_cases g2 : 67108864 < s.cost
    ·
     refine s_15 ?_
     exact j_e ⟨(jt (.inl ((jo g1 Iff.rfl).1 g2))), trivial⟩
    ·
     refine s_4 ?_
     by_cases g3 : s.dk = 4
     ·
      refine s_4 ?_
      by_cases g4 : s.n < 0
      ·
       refine s_7 ?_
       exact j_e ⟨(jt (.inr ⟨g3, (.inl g4)⟩)), trivial⟩
      ·
       refine s_7 ?_
       exact j_e ⟨(jb (jo (fun z => g2 ((jo g1 Iff.rfl).2 z)) (ja g3 (jo g4 Iff.rfl)))), trivial⟩
     ·
      refine s_11 ?_
      exact j_e ⟨(jf (fun z => z.elim (fun z => g2 ((jo g1 Iff.rfl).2 z)) (fun z => g3 z.1))), trivial⟩
  refine iff' ?_ ?_ <;> intro c2
  ·
   refine s_5 ?_
   exact rt1 (by first | rfl | (first | omega | (exfalso; split at hn1 <;> omega)))
  ·
   refine s_2 ?_
   refine j_n [0,1,6,30] [(2, (.bool (decide ((s.dk ≠ 6) ∨ ((gi s.bds (((s.bds.length : Int)) - 1)) ≤ 67108864)))))] ?_ (fun e2 => ?_)
   ·
    refine s_5 ?_
    by_cases g5 : s.dk ≠ 6
    ·
     refine s_12 ?_
     exact j_e ⟨(jt (.inl g5)), trivial⟩
    ·
     refine s_4 ?_
     refine og (qv_lenI UL.out rfl hbv) w_a ?_
     refine s_1 ?_
     refine og (qv_iai UL.out SZ.out e_vm (inVi hbv) rfl o_m o_m) w_a ?_
     refine og (qv_ldi PL.out rfl (inVi hbv) o_m o_m) w_a ?_
     refine s_4 ?_
     exact j_e ⟨(jb (jo g5 Iff.rfl)), trivial⟩
   refine s_1 ?_
   exact rt1 (jdt (by first | omega | (exfalso; split at hn1 <;> omega)))
 ·
  refine s_3 ?_
  refine j_n [0,1,2,6] [(30, (.bool (decide (((s.cost < 0) ∨ (10000 < s.cost)) ∨ ((s.dk = 4) ∧ ((s.n < 0) ∨ (4096 < s.n)))))))] ?_ (fun e3 => ?_)
  ·
   refine s_5 ?_
   by_cases g6 : s.cost < 0
   ·
    refine s_21 ?_
    exact j_e ⟨(jt (.inl (.inl g6))), trivial⟩
   ·
    refine s_6 ?_
    by_cases g7 : 10000 < s.cost
    ·
     refine s_15 ?_
     exact j_e ⟨(jt (.inl ((jo g6 Iff.rfl).1 g7))), trivial⟩
    ·
     refine s_4 ?_
     by_cases g8 : s.dk = 4
     ·
      refine s_4 ?_
      by_cases g9 : s.n < 0
      ·
       refine s_7 ?_
       exact j_e ⟨(jt (.inr ⟨g8, (.inl g9)⟩)), trivial⟩
      ·
       refine s_7 ?_
       exact j_e ⟨(jb (jo (fun z => g7 ((jo g6 Iff.rfl).2 z)) (ja g8 (jo g9 Iff.rfl)))), trivial⟩
     ·
      refine s_11 ?_
      exact j_e ⟨(jf (fun z => z.elim (fun z => g7 ((jo g6 Iff.rfl).2 z)) (fun z => g8 z.1))), trivial⟩
  refine iff' ?_ ?_ <;> intro c3
  ·
   refine s_5 ?_
   exact rt1 (by first | rfl | (first | omega | (exfalso; split at hn1 <;> omega)))
  ·
   refine s_2 ?_
   refine j_n [0,1,6,30] [(2, (.bool (decide ((s.dk ≠ 6) ∨ ((gi s.bds (((s.bds.length : Int)) - 1)) ≤ 67108864)))))] ?_ (fun e4 => ?_)
   ·
    refine s_5 ?_
    by_cases g10 : s.dk ≠ 6
    ·
     refine s_12 ?_
     exact j_e ⟨(jt (.inl g10)), trivial⟩
    ·
     refine s_4 ?_
     refine og (qv_lenI UL.out rfl hbv) w_a ?_
     refine s_1 ?_
     refine og (qv_iai UL.out SZ.out e_vm (inVi hbv) rfl o_m o_m) w_a ?_
     refine og (qv_ldi PL.out rfl (inVi hbv) o_m o_m) w_a ?_
     refine s_4 ?_
     exact j_e ⟨(jb (jo g10 Iff.rfl)), trivial⟩
   refine s_1 ?_
   exact rt1 (jdt (by first | omega | (exfalso; split at hn1 <;> omega)))

end Go.Proofs.YtbchkopkgpfkgaaGreatDoor
