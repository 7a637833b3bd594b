import Derived.Test.YtbchkopkgpfkgaaGreatDoorTi
import Derived.Test.YtbchkopkgpfkgaaGreatDoorGc
import Derived.Test.YtbchkopkgpfkgaaGreatDoorWp
/- Walks of the top laws: what each function returns. Printed by a program out of notes. -/
namespace Go.Proofs.YtbchkopkgpfkgaaGreatDoor
open Go.Vc
open Classical

set_option maxRecDepth 100000 in
set_option maxHeartbeats 4000000 in
theorem ruleP_c {V : HV} {t : Tm} {ks : Value} {va kv : Value} {vs : List Vr} {K : List Pr2} {inp : Bool} (hv : Vrs V va vs) (hkv : Prs V kv K) (hg : ∀ j : Int, gdR (pg K j)) (hkb : ¬ kBad t.op K.length) (hnb : ¬ nBad vs inp t.op t.n) (hwi : wiM (rul vs t.op t.n K)) (hT : Tms V ks t.kids) :
    FnC Tryz.prog 197 [va, (.agg #[(.int .i64 t.op), (.int .i64 t.n), ks]), kv] V [] (fun v _ _ => v = (.agg #[(.int .i64 ((rul vs t.op t.n K).1)), (.int .i64 ((rul vs t.op t.n K).2))])) := by
 refine f_i Tryz.func197 ?_
 intro w0 D
 obtain ⟨kvs, hS, hK⟩ := hT
 have hb2 := SlS.bound hv
 have hb3 := SlS.bound hkv
 refine s_2 ?_
 refine b_ox fun b1 => ?_
 refine a_lo fun b2 => ?_
 refine s_13 ?_
 refine iff' ?_ ?_ <;> intro c1
 ·
  refine s_6 ?_
  refine oq (qv_build (out := [(.int .i64 t.n), (.int .i64 t.n)]) BI.out [(0, [(.int .i64 t.n)]), (1, [(.int .i64 t.n)])] rfl rfl) ?_
  refine s_4 ?_
  refine rs1 _ (r_va rfl) ?_
  exact (aggc (consc (c_i (by rw [c1, rul_0b (lit_in (n := t.n) (vs := vs) (K := K) (by rw [c1] at hwi; exact hwi))])) (consc (c_i (by rw [c1, rul_0b (lit_in (n := t.n) (vs := vs) (K := K) (by rw [c1] at hwi; exact hwi))])) rfl)))
 ·
  refine s_5 ?_
  refine iff' ?_ ?_ <;> intro c2
  ·
   refine s_1 ?_
   have hnv : 0 ≤ t.n ∧ t.n < (vs.length : Int) := Classical.byContradiction fun q => hnb (.inl ⟨by assumption, .inl o_m⟩)
   refine ro1 [qt 0,qt 1,qt 2,qt 3,qt 4,qt 5,qt 6,qt 7,qt 8,qt 9,qt 10,qt 11,qt 12,ld 13] ?_
   refine s_3 ?_
   refine rq rfl (qv_ias UL.out SZ.out e_vm hv rfl o_m o_m) ?_
   refine rq rfl (qv_fas FI.out rfl hv o_m o_m) ?_
   refine rq rfl (qv_ldf PL.out rfl hv o_m o_m o_m (vrcs_el (o := 2) o_m o_m o_m rfl)) ?_
   refine s_3 ?_
   refine rq rfl (qv_ias UL.out SZ.out e_vm hv rfl o_m o_m) ?_
   refine rq rfl (qv_fas FI.out rfl hv o_m o_m) ?_
   refine rq rfl (qv_ldf PL.out rfl hv o_m o_m o_m (vrcs_el (o := 3) o_m o_m o_m rfl)) ?_
   refine rq rfl (qv_build (out := [(.int .i64 ((vr vs (t.n)).lo)), (.int .i64 ((vr vs (t.n)).hi))]) BI.out [(0, [(.int .i64 ((vr vs (t.n)).lo))]), (1, [(.int .i64 ((vr vs (t.n)).hi))])] rfl rfl) ?_
   refine rl_o ?_
   refine s_1 ?_
   refine on1 ?_
   refine s_3 ?_
   refine rs1 _ (r_va rfl) ?_
   exact (aggc (consc (c_i (by rw [c2]; rfl)) (consc (c_i (by rw [c2]; rfl)) rfl)))
  ·
   refine s_5 ?_
   refine iff' ?_ ?_ <;> intro c3
   ·
    refine s_1 ?_
    have hln := kb1 hkb o_m
    obtain ⟨ga1, ga2, ga3⟩ := hg 0
    obtain ⟨gb1, gb2, gb3⟩ := hg 1
    refine ro1 [qt 0,qt 1,qt 2,qt 3,qt 4,qt 5,qt 6,qt 7,qt 8,qt 9,qt 10,ld 11] ?_
    refine s_1 ?_
    refine rq rfl (qv_ias UL.out SZ.out e_vm hkv rfl o_m o_m) ?_
    refine rq rfl (qv_fas FI.out rfl hkv o_m o_m) ?_
    refine rq rfl (qv_ldf PL.out rfl hkv o_m o_m o_m (prcs_el (o := 1) o_m o_m o_m rfl)) ?_
    refine rq rfl (qv_neg rfl o_m) ?_
    refine s_1 ?_
    refine rq rfl (qv_ias UL.out SZ.out e_vm hkv rfl o_m o_m) ?_
    refine rq rfl (qv_fas FI.out rfl hkv o_m o_m) ?_
    refine rq rfl (qv_ldf PL.out rfl hkv o_m o_m o_m (prcs_el (o := 0) o_m o_m o_m rfl)) ?_
    refine rq rfl (qv_neg rfl o_m) ?_
    refine rq rfl (qv_build (out := [(.int .i64 (-((pg K (0)).2))), (.int .i64 (-((pg K (0)).1)))]) BI.out [(0, [(.int .i64 (-((pg K (0)).2)))]), (1, [(.int .i64 (-((pg K (0)).1)))])] rfl rfl) ?_
    refine rl_o ?_
    refine s_1 ?_
    refine on1 ?_
    refine s_3 ?_
    refine rs1 _ (r_va rfl) ?_
    exact (aggc (consc (c_i (by rw [c3]; rfl)) (consc (c_i (by rw [c3]; rfl)) rfl)))
   ·
    refine s_5 ?_
    refine iff' ?_ ?_ <;> intro c4
    ·
     refine s_1 ?_
     have hln := kb2 hkb o_m
     obtain ⟨ga1, ga2, ga3⟩ := hg 0
     obtain ⟨gb1, gb2, gb3⟩ := hg 1
     refine ro1 [qt 0,qt 1,qt 2,qt 3,qt 4,qt 5,qt 6,qt 7,qt 8,qt 9,qt 10,qt 11,qt 12,qt 13,qt 14,qt 15,qt 16,qt 17,qt 18,ld 19] ?_
     refine s_1 ?_
     refine rq rfl (qv_ias UL.out SZ.out e_vm hkv rfl o_m o_m) ?_
     refine rq rfl (qv_fas FI.out rfl hkv o_m o_m) ?_
     refine rq rfl (qv_ldf PL.out rfl hkv o_m o_m o_m (prcs_el (o := 0) o_m o_m o_m rfl)) ?_
     refine s_1 ?_
     refine rq rfl (qv_ias UL.out SZ.out e_vm hkv rfl o_m o_m) ?_
     refine rq rfl (qv_fas FI.out rfl hkv o_m o_m) ?_
     refine rq rfl (qv_ldf PL.out rfl hkv o_m o_m o_m (prcs_el (o := 0) o_m o_m o_m rfl)) ?_
     refine s_2 ?_
     refine rq rfl (qv_ias UL.out SZ.out e_vm hkv rfl o_m o_m) ?_
     refine rq rfl (qv_fas FI.out rfl hkv o_m o_m) ?_
     refine rq rfl (qv_ldf PL.out rfl hkv o_m o_m o_m (prcs_el (o := 1) o_m o_m o_m rfl)) ?_
     refine s_1 ?_
     refine rq rfl (qv_ias UL.out SZ.out e_vm hkv rfl o_m o_m) ?_
     refine rq rfl (qv_fas FI.out rfl hkv o_m o_m) ?_
     refine rq rfl (qv_ldf PL.out rfl hkv o_m o_m o_m (prcs_el (o := 1) o_m o_m o_m rfl)) ?_
     refine s_1 ?_
     refine rq rfl (qv_build (out := [(.int .i64 (((pg K (0)).1) + ((pg K (1)).1))), (.int .i64 (((pg K (0)).2) + ((pg K (1)).2)))]) BI.out [(0, [(.int .i64 (((pg K (0)).1) + ((pg K (1)).1)))]), (1, [(.int .i64 (((pg K (0)).2) + ((pg K (1)).2)))])] rfl rfl) ?_
     refine rl_o ?_
     refine s_1 ?_
     refine on1 ?_
     refine s_3 ?_
     refine rs1 _ (r_va rfl) ?_
     exact (aggc (consc (c_i (by rw [c4]; rfl)) (consc (c_i (by rw [c4]; rfl)) rfl)))
    ·
     refine s_5 ?_
     refine iff' ?_ ?_ <;> intro c5
     ·
      refine s_1 ?_
      have hln := kb2 hkb o_m
      obtain ⟨ga1, ga2, ga3⟩ := hg 0
      obtain ⟨gb1, gb2, gb3⟩ := hg 1
      refine ro1 [qt 0,qt 1,qt 2,qt 3,qt 4,qt 5,qt 6,qt 7,qt 8,qt 9,qt 10,qt 11,qt 12,qt 13,qt 14,qt 15,qt 16,qt 17,qt 18,ld 19] ?_
      refine s_1 ?_
      refine rq rfl (qv_ias UL.out SZ.out e_vm hkv rfl o_m o_m) ?_
      refine rq rfl (qv_fas FI.out rfl hkv o_m o_m) ?_
      refine rq rfl (qv_ldf PL.out rfl hkv o_m o_m o_m (prcs_el (o := 0) o_m o_m o_m rfl)) ?_
      refine s_1 ?_
      refine rq rfl (qv_ias UL.out SZ.out e_vm hkv rfl o_m o_m) ?_
      refine rq rfl (qv_fas FI.out rfl hkv o_m o_m) ?_
      refine rq rfl (qv_ldf PL.out rfl hkv o_m o_m o_m (prcs_el (o := 1) o_m o_m o_m rfl)) ?_
      refine s_2 ?_
      refine rq rfl (qv_ias UL.out SZ.out e_vm hkv rfl o_m o_m) ?_
      refine rq rfl (qv_fas FI.out rfl hkv o_m o_m) ?_
      refine rq rfl (qv_ldf PL.out rfl hkv o_m o_m o_m (prcs_el (o := 1) o_m o_m o_m rfl)) ?_
      refine s_1 ?_
      refine rq rfl (qv_ias UL.out SZ.out e_vm hkv rfl o_m o_m) ?_
      refine rq rfl (qv_fas FI.out rfl hkv o_m o_m) ?_
      refine rq rfl (qv_ldf PL.out rfl hkv o_m o_m o_m (prcs_el (o := 0) o_m o_m o_m rfl)) ?_
      refine s_1 ?_
      refine rq rfl (qv_build (out := [(.int .i64 (((pg K (0)).1) - ((pg K (1)).2))), (.int .i64 (((pg K (0)).2) - ((pg K (1)).1)))]) BI.out [(0, [(.int .i64 (((pg K (0)).1) - ((pg K (1)).2)))]), (1, [(.int .i64 (((pg K (0)).2) - ((pg K (1)).1)))])] rfl rfl) ?_
      refine rl_o ?_
      refine s_1 ?_
      refine on1 ?_
      refine s_3 ?_
      refine rs1 _ (r_va rfl) ?_
      exact (aggc (consc (c_i (by rw [c5]; rfl)) (consc (c_i (by rw [c5]; rfl)) rfl)))
     ·
      refine s_5 ?_
      refine iff' ?_ ?_ <;> intro c6
      ·
       refine s_1 ?_
       have hln := kb2 hkb o_m
       obtain ⟨ga1, ga2, ga3⟩ := hg 0
       obtain ⟨gb1, gb2, gb3⟩ := hg 1
       refine ro1 [qt 0,qt 1,qt 2,qt 3,qt 4,qt 5,qt 6,ld 7] ?_
       refine s_1 ?_
       refine rq rfl (qv_ias UL.out SZ.out e_vm hkv rfl o_m o_m) ?_
       refine rq rfl (qv_lds AG.out rfl hkv o_m o_m (prcs_at o_m o_m)) ?_
       refine s_1 ?_
       refine rq rfl (qv_ias UL.out SZ.out e_vm hkv rfl o_m o_m) ?_
       refine rq rfl (qv_lds AG.out rfl hkv o_m o_m (prcs_at o_m o_m)) ?_
       refine rq rfl (f_c (corners_c o_m o_m o_m o_m o_m o_m) rfl rfl) ?_
       refine rl_o ?_
       refine s_1 ?_
       refine on1 ?_
       refine s_3 ?_
       refine rs1 _ (r_va rfl) ?_
       exact (aggc (consc (c_i (by rw [c6]; rfl)) (consc (c_i (by rw [c6]; rfl)) rfl)))
      ·
       refine s_5 ?_
       refine iff' ?_ ?_ <;> intro c7
       ·
        refine s_1 ?_
        have hln := kb2 hkb o_m
        obtain ⟨ga1, ga2, ga3⟩ := hg 0
        obtain ⟨gb1, gb2, gb3⟩ := hg 1
        refine s_2 ?_
        refine qq (qv_ias UL.out SZ.out e_vm hkv rfl o_m o_m) ?_
        refine qq (qv_fas FI.out rfl hkv o_m o_m) ?_
        refine qq (qv_ldf PL.out rfl hkv o_m o_m o_m (prcs_el (o := 1) o_m o_m o_m rfl)) ?_
        refine s_1 ?_
        refine qq (qv_ias UL.out SZ.out e_vm hkv rfl o_m o_m) ?_
        refine qq (qv_fas FI.out rfl hkv o_m o_m) ?_
        refine qq (qv_ldf PL.out rfl hkv o_m o_m o_m (prcs_el (o := 0) o_m o_m o_m rfl)) ?_
        refine qq (qv_neg rfl o_m) ?_
        refine s_5 ?_
        refine j_n [0,1,2,4,6,7,13,14,21,36,49,70,91,100] [(123, (.bool (decide ((0 ≤ ((pg K (0)).1)) ∧ (0 ≤ ((pg K (1)).1))))))] ?_ (fun e1 => ?_)
        ·
         refine s_2 ?_
         refine oq (qv_ias UL.out SZ.out e_vm hkv rfl o_m o_m) ?_
         refine oq (qv_fas FI.out rfl hkv o_m o_m) ?_
         refine oq (qv_ldf PL.out rfl hkv o_m o_m o_m (prcs_el (o := 0) o_m o_m o_m rfl)) ?_
         refine s_2 ?_
         by_cases g1 : 0 ≤ ((pg K (0)).1)
         ·
          refine s_1 ?_
          refine og (qv_ias UL.out SZ.out e_vm hkv rfl o_m o_m) w_a ?_
          refine og (qv_fas FI.out rfl hkv o_m o_m) w_a ?_
          refine og (qv_ldf PL.out rfl hkv o_m o_m o_m (prcs_el (o := 0) o_m o_m o_m rfl)) w_a ?_
          refine s_3 ?_
          exact j_e ⟨(jb (ja g1 Iff.rfl)), trivial⟩
         ·
          refine s_7 ?_
          exact j_e ⟨(jf (fun z => g1 z.1)), trivial⟩
        refine iff' ?_ ?_ <;> intro c8
        ·
         refine s_3 ?_
         refine oq (qv_build (out := [(Value.int .i64 0), (.int .i64 (if ((pg K (0)).2) < (-((pg K (0)).1)) then -((pg K (0)).1) else (pg K (0)).2))]) BI.out [(0, [(Value.int .i64 0)]), (1, [(.int .i64 (if ((pg K (0)).2) < (-((pg K (0)).1)) then -((pg K (0)).1) else (pg K (0)).2))])] rfl rfl) ?_
         refine s_4 ?_
         refine rs1 _ (r_va rfl) ?_
         exact (aggc (consc (c_i (by have z := rul_11a (vs := vs) (n := t.n) (k := K) (by constructor <;> omega); first | (rw [c7, z]; done) | (rw [c7, z]; dsimp only; unfold mxI; (repeat' split) <;> first | rfl | omega))) (consc (c_i (by have z := rul_11a (vs := vs) (n := t.n) (k := K) (by constructor <;> omega); first | (rw [c7, z]; done) | (rw [c7, z]; dsimp only; unfold mxI; (repeat' split) <;> first | rfl | omega))) rfl)))
        ·
         refine s_4 ?_
         refine oq (qv_neg rfl o_m) ?_
         refine s_1 ?_
         refine oq (qv_build (out := [(.int .i64 (-(if ((pg K (0)).2) < (-((pg K (0)).1)) then -((pg K (0)).1) else (pg K (0)).2))), (.int .i64 (if ((pg K (0)).2) < (-((pg K (0)).1)) then -((pg K (0)).1) else (pg K (0)).2))]) BI.out [(0, [(.int .i64 (-(if ((pg K (0)).2) < (-((pg K (0)).1)) then -((pg K (0)).1) else (pg K (0)).2)))]), (1, [(.int .i64 (if ((pg K (0)).2) < (-((pg K (0)).1)) then -((pg K (0)).1) else (pg K (0)).2))])] rfl rfl) ?_
         refine s_4 ?_
         refine rs1 _ (r_va rfl) ?_
         exact (aggc (consc (c_i (by have z := rul_11b (vs := vs) (n := t.n) (k := K) o_m; first | (rw [c7, z]; done) | (rw [c7, z]; dsimp only; unfold mxI; (repeat' split) <;> first | rfl | omega))) (consc (c_i (by have z := rul_11b (vs := vs) (n := t.n) (k := K) o_m; first | (rw [c7, z]; done) | (rw [c7, z]; dsimp only; unfold mxI; (repeat' split) <;> first | rfl | omega))) rfl)))
       ·
        refine s_5 ?_
        refine iff' ?_ ?_ <;> intro c9
        ·
         refine s_1 ?_
         have hln := kb2 hkb o_m
         obtain ⟨ga1, ga2, ga3⟩ := hg 0
         obtain ⟨gb1, gb2, gb3⟩ := hg 1
         refine s_1 ?_
         refine oq (qv_build (out := [(Value.int .i64 0), (Value.int .i64 0)]) BI.out [] rfl rfl) ?_
         refine a_lo fun b3 => ?_
         refine s_6 ?_
         refine oq (qv_ias UL.out SZ.out e_vm hkv rfl o_m o_m) ?_
         refine oq (qv_fas FI.out rfl hkv o_m o_m) ?_
         refine oq (qv_ldf PL.out rfl hkv o_m o_m o_m (prcs_el (o := 0) o_m o_m o_m rfl)) ?_
         refine s_2 ?_
         refine iff' ?_ ?_ <;> intro c10
         ·
          refine s_2 ?_
          refine oq (qv_ias UL.out SZ.out e_vm hkv rfl o_m o_m) ?_
          refine oq (qv_fas FI.out rfl hkv o_m o_m) ?_
          refine oq (qv_ldf PL.out rfl hkv o_m o_m o_m (prcs_el (o := 0) o_m o_m o_m rfl)) ?_
          refine s_9 ?_
          refine oq (qv_ias UL.out SZ.out e_vm hkv rfl o_m o_m) ?_
          refine oq (qv_fas FI.out rfl hkv o_m o_m) ?_
          refine oq (qv_ldf PL.out rfl hkv o_m o_m o_m (prcs_el (o := 1) o_m o_m o_m rfl)) ?_
          refine s_2 ?_
          refine iff' ?_ ?_ <;> intro c11
          ·
           refine s_2 ?_
           refine oq (qv_ias UL.out SZ.out e_vm hkv rfl o_m o_m) ?_
           refine oq (qv_fas FI.out rfl hkv o_m o_m) ?_
           refine oq (qv_ldf PL.out rfl hkv o_m o_m o_m (prcs_el (o := 1) o_m o_m o_m rfl)) ?_
           refine s_12 ?_
           refine rs1 _ (r_va rfl) ?_
           exact (aggc (consc (c_i (by rw [c9]; first | (show _ = (if (pg K 1).1 < 0 then mnI 0 ((pg K 1).1 + 1) else 0); unfold mnI; (repeat' split) <;> first | rfl | omega) | (show _ = (if 0 < (pg K 1).2 then mxI 0 ((pg K 1).2 - 1) else 0); unfold mxI; (repeat' split) <;> first | rfl | omega))) (consc (c_i (by rw [c9]; first | (show _ = (if (pg K 1).1 < 0 then mnI 0 ((pg K 1).1 + 1) else 0); unfold mnI; (repeat' split) <;> first | rfl | omega) | (show _ = (if 0 < (pg K 1).2 then mxI 0 ((pg K 1).2 - 1) else 0); unfold mxI; (repeat' split) <;> first | rfl | omega))) rfl)))
          ·
           refine s_8 ?_
           refine rs1 _ (r_va rfl) ?_
           exact (aggc (consc (c_i (by rw [c9]; first | (show _ = (if (pg K 1).1 < 0 then mnI 0 ((pg K 1).1 + 1) else 0); unfold mnI; (repeat' split) <;> first | rfl | omega) | (show _ = (if 0 < (pg K 1).2 then mxI 0 ((pg K 1).2 - 1) else 0); unfold mxI; (repeat' split) <;> first | rfl | omega))) (consc (c_i (by rw [c9]; first | (show _ = (if (pg K 1).1 < 0 then mnI 0 ((pg K 1).1 + 1) else 0); unfold mnI; (repeat' split) <;> first | rfl | omega) | (show _ = (if 0 < (pg K 1).2 then mxI 0 ((pg K 1).2 - 1) else 0); unfold mxI; (repeat' split) <;> first | rfl | omega))) rfl)))
         ·
          refine s_5 ?_
          refine oq (qv_ias UL.out SZ.out e_vm hkv rfl o_m o_m) ?_
          refine oq (qv_fas FI.out rfl hkv o_m o_m) ?_
          refine oq (qv_ldf PL.out rfl hkv o_m o_m o_m (prcs_el (o := 1) o_m o_m o_m rfl)) ?_
          refine s_2 ?_
          refine iff' ?_ ?_ <;> intro c12
          ·
           refine s_2 ?_
           refine oq (qv_ias UL.out SZ.out e_vm hkv rfl o_m o_m) ?_
           refine oq (qv_fas FI.out rfl hkv o_m o_m) ?_
           refine oq (qv_ldf PL.out rfl hkv o_m o_m o_m (prcs_el (o := 1) o_m o_m o_m rfl)) ?_
           refine s_12 ?_
           refine rs1 _ (r_va rfl) ?_
           exact (aggc (consc (c_i (by rw [c9]; first | (show _ = (if (pg K 1).1 < 0 then mnI 0 ((pg K 1).1 + 1) else 0); unfold mnI; (repeat' split) <;> first | rfl | omega) | (show _ = (if 0 < (pg K 1).2 then mxI 0 ((pg K 1).2 - 1) else 0); unfold mxI; (repeat' split) <;> first | rfl | omega))) (consc (c_i (by rw [c9]; first | (show _ = (if (pg K 1).1 < 0 then mnI 0 ((pg K 1).1 + 1) else 0); unfold mnI; (repeat' split) <;> first | rfl | omega) | (show _ = (if 0 < (pg K 1).2 then mxI 0 ((pg K 1).2 - 1) else 0); unfold mxI; (repeat' split) <;> first | rfl | omega))) rfl)))
          ·
           refine s_8 ?_
           refine rs1 _ (r_va rfl) ?_
           exact (aggc (consc (c_i (by rw [c9]; first | (show _ = (if (pg K 1).1 < 0 then mnI 0 ((pg K 1).1 + 1) else 0); unfold mnI; (repeat' split) <;> first | rfl | omega) | (show _ = (if 0 < (pg K 1).2 then mxI 0 ((pg K 1).2 - 1) else 0); unfold mxI; (repeat' split) <;> first | rfl | omega))) (consc (c_i (by rw [c9]; first | (show _ = (if (pg K 1).1 < 0 then mnI 0 ((pg K 1).1 + 1) else 0); unfold mnI; (repeat' split) <;> first | rfl | omega) | (show _ = (if 0 < (pg K 1).2 then mxI 0 ((pg K 1).2 - 1) else 0); unfold mxI; (repeat' split) <;> first | rfl | omega))) rfl)))
        ·
         refine s_5 ?_
         refine iff' ?_ ?_ <;> intro c13
         ·
          refine s_1 ?_
          have hln := kb2 hkb o_m
          obtain ⟨ga1, ga2, ga3⟩ := hg 0
          obtain ⟨gb1, gb2, gb3⟩ := hg 1
          refine ro1 [qt 0,qt 1,qt 2,qt 3,qt 4,qt 5,qt 6,qt 7,qt 8,qt 9,qt 10,qt 11,qt 12,qt 13,qt 14,qt 15,qt 16,qt 17,qt 18,ld 19] ?_
          refine s_1 ?_
          refine rq rfl (qv_ias UL.out SZ.out e_vm hkv rfl o_m o_m) ?_
          refine rq rfl (qv_fas FI.out rfl hkv o_m o_m) ?_
          refine rq rfl (qv_ldf PL.out rfl hkv o_m o_m o_m (prcs_el (o := 0) o_m o_m o_m rfl)) ?_
          refine s_1 ?_
          refine rq rfl (qv_ias UL.out SZ.out e_vm hkv rfl o_m o_m) ?_
          refine rq rfl (qv_fas FI.out rfl hkv o_m o_m) ?_
          refine rq rfl (qv_ldf PL.out rfl hkv o_m o_m o_m (prcs_el (o := 0) o_m o_m o_m rfl)) ?_
          refine s_2 ?_
          refine rq rfl (qv_ias UL.out SZ.out e_vm hkv rfl o_m o_m) ?_
          refine rq rfl (qv_fas FI.out rfl hkv o_m o_m) ?_
          refine rq rfl (qv_ldf PL.out rfl hkv o_m o_m o_m (prcs_el (o := 1) o_m o_m o_m rfl)) ?_
          refine s_1 ?_
          refine rq rfl (qv_ias UL.out SZ.out e_vm hkv rfl o_m o_m) ?_
          refine rq rfl (qv_fas FI.out rfl hkv o_m o_m) ?_
          refine rq rfl (qv_ldf PL.out rfl hkv o_m o_m o_m (prcs_el (o := 1) o_m o_m o_m rfl)) ?_
          refine s_1 ?_
          refine rq rfl (qv_build (out := [(.int .i64 (if ((pg K (1)).1) < ((pg K (0)).1) then (pg K (1)).1 else (pg K (0)).1)), (.int .i64 (if ((pg K (1)).2) < ((pg K (0)).2) then (pg K (1)).2 else (pg K (0)).2))]) BI.out [(0, [(.int .i64 (if ((pg K (1)).1) < ((pg K (0)).1) then (pg K (1)).1 else (pg K (0)).1))]), (1, [(.int .i64 (if ((pg K (1)).2) < ((pg K (0)).2) then (pg K (1)).2 else (pg K (0)).2))])] rfl rfl) ?_
          refine rl_o ?_
          refine s_1 ?_
          refine on1 ?_
          refine s_3 ?_
          refine rs1 _ (r_va rfl) ?_
          exact (aggc (consc (c_i (by rw [c13]; first | (show _ = mnI _ _; unfold mnI; (repeat' split) <;> first | rfl | omega) | (show _ = mxI _ _; unfold mxI; (repeat' split) <;> first | rfl | omega))) (consc (c_i (by rw [c13]; first | (show _ = mnI _ _; unfold mnI; (repeat' split) <;> first | rfl | omega) | (show _ = mxI _ _; unfold mxI; (repeat' split) <;> first | rfl | omega))) rfl)))
         ·
          refine s_5 ?_
          refine iff' ?_ ?_ <;> intro c14
          ·
           refine s_1 ?_
           have hln := kb2 hkb o_m
           obtain ⟨ga1, ga2, ga3⟩ := hg 0
           obtain ⟨gb1, gb2, gb3⟩ := hg 1
           refine ro1 [qt 0,qt 1,qt 2,qt 3,qt 4,qt 5,qt 6,qt 7,qt 8,qt 9,qt 10,qt 11,qt 12,qt 13,qt 14,qt 15,qt 16,qt 17,qt 18,ld 19] ?_
           refine s_1 ?_
           refine rq rfl (qv_ias UL.out SZ.out e_vm hkv rfl o_m o_m) ?_
           refine rq rfl (qv_fas FI.out rfl hkv o_m o_m) ?_
           refine rq rfl (qv_ldf PL.out rfl hkv o_m o_m o_m (prcs_el (o := 0) o_m o_m o_m rfl)) ?_
           refine s_1 ?_
           refine rq rfl (qv_ias UL.out SZ.out e_vm hkv rfl o_m o_m) ?_
           refine rq rfl (qv_fas FI.out rfl hkv o_m o_m) ?_
           refine rq rfl (qv_ldf PL.out rfl hkv o_m o_m o_m (prcs_el (o := 0) o_m o_m o_m rfl)) ?_
           refine s_2 ?_
           refine rq rfl (qv_ias UL.out SZ.out e_vm hkv rfl o_m o_m) ?_
           refine rq rfl (qv_fas FI.out rfl hkv o_m o_m) ?_
           refine rq rfl (qv_ldf PL.out rfl hkv o_m o_m o_m (prcs_el (o := 1) o_m o_m o_m rfl)) ?_
           refine s_1 ?_
           refine rq rfl (qv_ias UL.out SZ.out e_vm hkv rfl o_m o_m) ?_
           refine rq rfl (qv_fas FI.out rfl hkv o_m o_m) ?_
           refine rq rfl (qv_ldf PL.out rfl hkv o_m o_m o_m (prcs_el (o := 1) o_m o_m o_m rfl)) ?_
           refine s_1 ?_
           refine rq rfl (qv_build (out := [(.int .i64 (if ((pg K (0)).1) < ((pg K (1)).1) then (pg K (1)).1 else (pg K (0)).1)), (.int .i64 (if ((pg K (0)).2) < ((pg K (1)).2) then (pg K (1)).2 else (pg K (0)).2))]) BI.out [(0, [(.int .i64 (if ((pg K (0)).1) < ((pg K (1)).1) then (pg K (1)).1 else (pg K (0)).1))]), (1, [(.int .i64 (if ((pg K (0)).2) < ((pg K (1)).2) then (pg K (1)).2 else (pg K (0)).2))])] rfl rfl) ?_
           refine rl_o ?_
           refine s_1 ?_
           refine on1 ?_
           refine s_3 ?_
           refine rs1 _ (r_va rfl) ?_
           exact (aggc (consc (c_i (by rw [c14]; first | (show _ = mnI _ _; unfold mnI; (repeat' split) <;> first | rfl | omega) | (show _ = mxI _ _; unfold mxI; (repeat' split) <;> first | rfl | omega))) (consc (c_i (by rw [c14]; first | (show _ = mnI _ _; unfold mnI; (repeat' split) <;> first | rfl | omega) | (show _ = mxI _ _; unfold mxI; (repeat' split) <;> first | rfl | omega))) rfl)))
          ·
           refine s_6 ?_
           refine iff' ?_ ?_ <;> intro c15
           ·
            refine s_1 ?_
            refine i_ft c15 ?_
            refine s_1 ?_
            have hln : 2 ≤ (K.length : Int) := by first | (have := kb3 hkb (by assumption); omega) | exact (kb4 hkb (by assumption)).1
            have hkd : Prs V (dropR kv (2 : Int).toNat 2) (K.drop 2) := hkv.drop (by show 2 ≤ K.length; omega)
            have hld : (K.drop 2).length = K.length - 2 := List.length_drop
            have hbd := SlS.bound hkd
            refine s_2 ?_
            refine oq (qv_ias UL.out SZ.out e_vm hkv rfl o_m o_m) ?_
            refine oq (qv_lds AG.out rfl hkv o_m o_m (prcs_at o_m o_m)) ?_
            refine a_lo fun b4 => ?_
            refine s_6 ?_
            refine oq (qv_sliceLoR UL.out SZ.out e_vm hkv rfl o_m o_m) ?_
            refine oq (qv_lenSS UL.out rfl hkd) ?_
            refine s_3 ?_
            refine lp1 [0,1,2,4,6,9,13,14,21,36,49,70,91,100,130,158,179,200,207,208] (fun (i : Int) => [(209, (Value.int .i64 i))]) (fun i => [(Arr 76 b1 [(.int .i64 t.op), (.int .i64 t.n), ks]), (Arr 232 b2 [(Value.int .i64 0), (Value.int .i64 0)]), (Arr 232 b4 [(.int .i64 ((hulL (pg K 1) ((K.drop 2).take i.toNat)).1)), (.int .i64 ((hulL (pg K 1) ((K.drop 2).take i.toNat)).2))])]) (fun i => 0 ≤ i ∧ i ≤ (K.drop 2).length) (fun i => ((K.drop 2).length - i).toNat) 0 ?_ ?_ ?_ ?_ 
            · exact ⟨rfl, trivial⟩
            · (rfl)
            · exact ⟨by omega, by omega⟩
            rintro i e2 ⟨i1, i2⟩
            refine s_5 ?_
            refine iff' ?_ ?_ <;> intro c16
            ·
             refine s_5 ?_
             refine oq (qv_ias UL.out SZ.out e_vm hkd rfl o_m o_m) ?_
             refine oq (qv_lds AG.out rfl hkd o_m o_m (prcs_at o_m o_m)) ?_
             refine a_lo fun b5 => ?_
             refine s_5 ?_
             refine oq (f_c (hull_c) rfl rfl) ?_
             refine s_2 ?_
             refine v_d 3 ?_
             refine s_4 ?_
             exact le1 (i + 1) ⟨(c_i o_m), trivial⟩ ⟨by omega, by omega⟩ (hr := by rw [hulL_take (L := K.drop 2) i1 o_m])
            ·
             refine s_9 ?_
             refine rs1 _ (r_va rfl) ?_
             exact (aggc (consc (c_i (by first | (rw [show t.op = 23 by assumption, List.take_of_length_le (by rw [List.length_drop]; omega)]; rfl) | (rw [show t.op = 25 by assumption, List.take_of_length_le (by rw [List.length_drop]; omega)]; rfl))) (consc (c_i (by first | (rw [show t.op = 23 by assumption, List.take_of_length_le (by rw [List.length_drop]; omega)]; rfl) | (rw [show t.op = 25 by assumption, List.take_of_length_le (by rw [List.length_drop]; omega)]; rfl))) rfl)))
           ·
            refine s_4 ?_
            refine iff' ?_ ?_ <;> intro c17
            ·
             refine s_1 ?_
             have hln : 2 ≤ (K.length : Int) := by first | (have := kb3 hkb (by assumption); omega) | exact (kb4 hkb (by assumption)).1
             have hkd : Prs V (dropR kv (2 : Int).toNat 2) (K.drop 2) := hkv.drop (by show 2 ≤ K.length; omega)
             have hld : (K.drop 2).length = K.length - 2 := List.length_drop
             have hbd := SlS.bound hkd
             refine s_2 ?_
             refine oq (qv_ias UL.out SZ.out e_vm hkv rfl o_m o_m) ?_
             refine oq (qv_lds AG.out rfl hkv o_m o_m (prcs_at o_m o_m)) ?_
             refine a_lo fun b6 => ?_
             refine s_6 ?_
             refine oq (qv_sliceLoR UL.out SZ.out e_vm hkv rfl o_m o_m) ?_
             refine oq (qv_lenSS UL.out rfl hkd) ?_
             refine s_3 ?_
             refine lp1 [0,1,2,4,6,9,13,14,21,36,49,70,91,100,130,158,179,200,207,208] (fun (i : Int) => [(209, (Value.int .i64 i))]) (fun i => [(Arr 76 b1 [(.int .i64 t.op), (.int .i64 t.n), ks]), (Arr 232 b2 [(Value.int .i64 0), (Value.int .i64 0)]), (Arr 232 b6 [(.int .i64 ((hulL (pg K 1) ((K.drop 2).take i.toNat)).1)), (.int .i64 ((hulL (pg K 1) ((K.drop 2).take i.toNat)).2))])]) (fun i => 0 ≤ i ∧ i ≤ (K.drop 2).length) (fun i => ((K.drop 2).length - i).toNat) 0 ?_ ?_ ?_ ?_ 
             · exact ⟨rfl, trivial⟩
             · (rfl)
             · exact ⟨by omega, by omega⟩
             rintro i e3 ⟨i1, i2⟩
             refine s_5 ?_
             refine iff' ?_ ?_ <;> intro c18
             ·
              refine s_5 ?_
              refine oq (qv_ias UL.out SZ.out e_vm hkd rfl o_m o_m) ?_
              refine oq (qv_lds AG.out rfl hkd o_m o_m (prcs_at o_m o_m)) ?_
              refine a_lo fun b7 => ?_
              refine s_5 ?_
              refine oq (f_c (hull_c) rfl rfl) ?_
              refine s_2 ?_
              refine v_d 3 ?_
              refine s_4 ?_
              exact le1 (i + 1) ⟨(c_i o_m), trivial⟩ ⟨by omega, by omega⟩ (hr := by rw [hulL_take (L := K.drop 2) i1 o_m])
             ·
              refine s_9 ?_
              refine rs1 _ (r_va rfl) ?_
              exact (aggc (consc (c_i (by first | (rw [show t.op = 23 by assumption, List.take_of_length_le (by rw [List.length_drop]; omega)]; rfl) | (rw [show t.op = 25 by assumption, List.take_of_length_le (by rw [List.length_drop]; omega)]; rfl))) (consc (c_i (by first | (rw [show t.op = 23 by assumption, List.take_of_length_le (by rw [List.length_drop]; omega)]; rfl) | (rw [show t.op = 25 by assumption, List.take_of_length_le (by rw [List.length_drop]; omega)]; rfl))) rfl)))
            ·
             refine s_3 ?_
             refine oq (qv_build (out := [(Value.int .i64 0), (Value.int .i64 1)]) BI.out [(0, [(Value.int .i64 0)]), (1, [(Value.int .i64 1)])] rfl rfl) ?_
             refine s_3 ?_
             refine rs1 _ (r_va rfl) ?_
             exact (aggc (consc (c_i (by rw [rul_e o_m])) (consc (c_i (by rw [rul_e o_m])) rfl)))

end Go.Proofs.YtbchkopkgpfkgaaGreatDoor
