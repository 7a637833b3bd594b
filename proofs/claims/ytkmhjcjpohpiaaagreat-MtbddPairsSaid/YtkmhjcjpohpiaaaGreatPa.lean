import Derived.Test.YtkmhjcjpohpiaaaGreatMk
import Derived.Test.YtkmhjcjpohpiaaaGreatWo
/- Walks of mtbdd: what each function returns. Printed by a program out of notes. -/
namespace Go.Proofs.YtkmhjcjpohpiaaaGreat
open Go.Vc
open Classical

set_option maxRecDepth 100000 in
set_option maxHeartbeats 4000000 in
theorem ValuesP_c {V : HV} {gv : Value} {G : List P2} (hG : P2s V gv G) :
    FnC Tryz.prog 50 [gv] V [] (fun v V' σ' => σ' = [] ∧ ∃ Bs, v = .func (.func 93) #[] #[.pointer (some ⟨Bs, 0, none⟩)] ∧ Cells V' Bs [gv]) := by
 refine fn_intro (N := 4) Tryz.func50 (by kernel_rfl) rfl rfl rfl (Nat.le_of_ble_eq_true rfl) ?_
 intro w0 D
 refine vc_seq ?_
 refine vc_region ?_
 refine ops_box (v := gv) (cs := [gv]) rfl (SlS.cells hG) (fun b1 => ?_)
 refine oq (qv_as Value.nilFunc rfl) ?_
 refine ops_nil ?_
 refine vc_seq ?_
 refine vc_res (σ' := [(Arr 44 b1 [gv])]) rfl ?_
 refine vc_region ?_
 let ζ1 : Value := Value.pointer (some ⟨b1, 0, none⟩)
 refine oq (qv_func (cs := [ζ1]) rfl) ?_
 refine oq (qv_as (Value.func (.func 93) #[] #[ζ1]) rfl) ?_
 refine ops_nil ?_
 refine vc_freeze (b := b1) (o := .cells ([gv] : List Value).toArray 44 (0, 0)) (σr := []) (List.perm_middle (l₁ := []) (l₂ := [])) (fun Vf1 hVf1 hb1 => ?_)
 have hc1 : Cells Vf1 b1 [gv] := ⟨_, _, hb1⟩
 have hG := hG.mono hVf1
 refine vc_ret ?_
 refine rq1 (Value.func (.func 93) #[] #[ζ1]) rfl ?_
 exact ⟨rfl, _, rfl, hc1⟩

set_option maxRecDepth 100000 in
set_option maxHeartbeats 4000000 in
theorem CollectP_c {V : HV} {gv : Value} {T : List Pr} {Bs : Nat} (hc : Cells V Bs [gv]) (hG : P2s V gv (vals2 T)) (hlen : T.length ≤ 1000000) :
    FnC Tryz.prog 92 [(Value.func (.func 93) #[] #[(Value.pointer (some ⟨Bs, 0, none⟩))])] V [] (fun v _ σ' => σ' = [Gr 50 2 v T.length (p2s (vals2 T))]) := by
 refine fn_intro (N := 5) Tryz.func92 (by kernel_rfl) rfl rfl rfl (Nat.le_of_ble_eq_true rfl) ?_
 intro w0 D
 refine vc_seq ?_
 refine vc_region ?_
 refine oq (qv_as (Value.slice none 0 0) rfl) ?_
 refine ops_nil ?_
 refine vc_seq ?_
 refine vc_region ?_
 refine oq (qv_mv (Value.func (.func 93) #[] #[(Value.pointer (some ⟨Bs, 0, none⟩))]) rfl) ?_
 refine ops_call (σa := []) (σr := []) (by have h := App_c hc hG (by simpa using hlen); rw [List.length_map] at h; exact h) rfl rfl (.refl _) (fun r1 V1 sg1 hV1 hp1 => ?_)
 obtain ⟨hVV, rfl⟩ := hp1
 have hc := hc.mono hV1
 have hG := hG.mono hV1
 refine oq (qv_as r1 rfl) ?_
 refine ops_nil ?_
 refine vc_ret ?_
 refine rq1 r1 rfl ?_
 exact rfl

set_option maxRecDepth 100000 in
set_option maxHeartbeats 4000000 in
theorem SortedP_c {V : HV} {gv : Value} {T : List Pr} {Bs : Nat} (hc : Cells V Bs [gv]) (hG : P2s V gv (vals2 T)) (hlen : T.length ≤ 1000000) :
    FnC Tryz.prog 49 [(Value.func (.func 93) #[] #[(Value.pointer (some ⟨Bs, 0, none⟩))]), (Value.func (.func 51) #[] #[])] V [] (fun v _ σ' => ∃ T' : List Pr, T'.Perm T ∧ (∀ i j : Nat, i < j → j < T'.length → ¬ PLt (T'[j]!).1 (T'[i]!).1) ∧ σ' = [Gr 50 2 v T.length (p2s (vals2 T'))]) := by
 refine fn_intro (N := 12) Tryz.func49 (by kernel_rfl) rfl rfl rfl (Nat.le_of_ble_eq_true rfl) ?_
 intro w0 D
 refine vc_seq ?_
 refine vc_region ?_
 refine oq (qv_as (Value.slice none 0 0) rfl) ?_
 refine ops_nil ?_
 refine vc_seq ?_
 refine vc_region ?_
 refine oq (qv_mv (Value.func (.func 93) #[] #[(Value.pointer (some ⟨Bs, 0, none⟩))]) rfl) ?_
 refine ops_call (σa := []) (σr := []) (CollectP_c hc hG hlen) rfl rfl (.refl _) (fun r1 V1 sg1 hV1 hp1 => ?_)
 obtain rfl := hp1
 have hc := hc.mono hV1
 have hG := hG.mono hV1
 refine oq (qv_as r1 rfl) ?_
 refine ops_nil ?_
 refine vc_seq ?_
 refine vc_res (σ' := [(Gr 50 2 r1 T.length ((p2s (vals2 T))))]) rfl ?_
 refine vc_region ?_
 refine oq (qv_mv r1 rfl) ?_
 refine oq (qv_mv (Value.func (.func 51) #[] #[]) rfl) ?_
 refine ops_call (σa := [(Gr 50 2 r1 T.length ((p2s (vals2 T))))]) (σr := []) (SortP_c (T := T) (by omega)) rfl rfl (.refl _) (fun r2 V2 sg2 hV2 hp2 => ?_)
 obtain ⟨rfl, hVV, T', hp1, hs1, rfl⟩ := hp2
 have hc := hc.mono hV2
 have hG := hG.mono hV2
 refine ops_nil ?_
 refine vc_seq ?_
 refine vc_res (σ' := [(Gr 50 2 r1 T.length ((p2s (vals2 T'))))]) rfl ?_
 refine vc_region ?_
 refine oq (qv_mv r1 rfl) ?_
 refine oq (qv_as r1 rfl) ?_
 refine ops_nil ?_
 refine vc_ret ?_
 refine rq1 r1 rfl ?_
 exact ⟨T', hp1, hs1, rfl⟩

set_option maxRecDepth 100000 in
set_option maxHeartbeats 4000000 in
theorem IndexP_c {V : HV} {a : Value} {X : List P2} {x y : Int} (hX : P2s V a X) :
    FnC Tryz.prog 19 [a, (.agg #[(Value.int .i64 x), (Value.int .i64 y)])] V [] (fun v _ _ => v = (.int .i64 (ixP X x y))) := by
 refine fn_intro (N := 19) Tryz.func19 (by kernel_rfl) rfl rfl rfl (Nat.le_of_ble_eq_true rfl) ?_
 intro w0 D
 have hb := SlS.bound hX
 refine vc_seq ?_
 refine vc_region ?_
 refine ops_box (v := (.agg #[(Value.int .i64 x), (Value.int .i64 y)])) (cs := [(Value.int .i64 x), (Value.int .i64 y)]) rfl rfl (fun b1 => ?_)
 refine oq (qv_as (Value.int .i64 0) rfl) ?_
 refine ops_nil ?_
 refine vc_seq ?_
 refine vc_seq ?_
 let ζ1 : Asrt := Arr 50 b1 [(Value.int .i64 x), (Value.int .i64 y)]
 refine vc_res (σ' := [ζ1]) rfl ?_
 refine vc_region ?_
 refine oq (qv_mv a rfl) ?_
 refine oq (qv_lenSS Tryz.underlying44 rfl hX) ?_
 refine oq (qv_mv (Value.int .i64 0) rfl) ?_
 refine ops_nil ?_
 refine vc_block ?_
 refine vc_loop (α := Int) (fun (xx : Int) => [(0, a), (1, (.agg #[(Value.int .i64 x), (Value.int .i64 y)])), (3, (Value.pointer (some ⟨b1, 0, none⟩))), (7, (.int .i64 ((X.length : Int)))), (8, (Value.int .i64 xx))]) (fun (xx : Int) V' σ' => V = V' ∧ [ζ1] = σ' ∧ 0 ≤ xx ∧ xx ≤ X.length ∧ ∀ z : Int, 0 ≤ z → z < xx → ¬ p2 X z = ⟨x, y⟩) (fun (xx : Int) => (X.length - xx).toNat) (0) ?_ ?_ ?_
 · exact ⟨rfl, rfl, rfl, rfl, rfl, trivial⟩
 · exact ⟨rfl, rfl, by omega, by omega, fun z a b => by omega⟩
 rintro i e1 V0l σ0l hI0
 obtain ⟨rfl, rfl, i1, i2, hi⟩ : V = V0l ∧ [ζ1] = σ0l ∧ 0 ≤ i ∧ i ≤ X.length ∧ ∀ z : Int, 0 ≤ z → z < i → ¬ p2 X z = ⟨x, y⟩ := hI0
 refine vc_seq ?_
 refine vc_region ?_
 refine oq (qv_lss rfl rfl) ?_
 refine ops_nil ?_
 refine vc_seq ?_
 refine vc_if rfl (fun c1 => ?_) (fun c1 => ?_)
 ·
  refine vc_skip ?_
  refine vc_seq ?_
  refine vc_block ?_
  refine vc_seq ?_
  refine vc_region ?_
  refine oq (qv_mv (Value.int .i64 i) rfl) ?_
  refine oq (qv_as (Value.int .i64 i) rfl) ?_
  refine ops_nil ?_
  refine vc_seq ?_
  refine vc_region_any Tryz.mixed (by kernel_rfl) ?_
  refine qq (qv_ldm (vs := [(Value.int .i64 x), (Value.int .i64 y)]) Tryz.agg50 rfl (inOc (k := 0) rfl) rfl rfl) ?_
  refine qq (qv_mv a rfl) ?_
  refine qq (qv_mv (Value.int .i64 i) rfl) ?_
  refine qq (qv_ias (v := a) (i := i) Tryz.underlying44 Tryz.size50 rfl hX rfl (by omega) (by omega)) ?_
  refine qq (qv_lds (v := a) (i := i) (vs := [(.int .i64 ((p2 X (i)).a)), (.int .i64 ((p2 X (i)).b))]) Tryz.agg50 rfl hX (by omega) (by omega) (p2s_at (by omega) (by omega))) ?_
  refine qq (qv_eqls Tryz.eq50 [x, y] [(p2 X (i)).a, (p2 X (i)).b] rfl rfl rfl rfl rfl rfl eq2) ?_
  refine qops_nil ?_
  refine vc_if rfl (fun c2 => ?_) (fun c2 => ?_)
  ·
   refine vc_seq ?_
   refine vc_region ?_
   refine oq (qv_mv (Value.int .i64 i) rfl) ?_
   refine oq (qv_as (Value.int .i64 i) rfl) ?_
   refine ops_nil ?_
   refine vc_ret ?_
   refine blockQ_ret ?_
   refine blockQ_ret ?_
   exact rq1 (.int .i64 (ixP X x y)) (congrArg (Value.int .i64) (show i = (ixP X x y) from by exact (ixP_at (by omega) (by omega) (by assumption) (fun z a b => hi z a b)).symm)) rfl
  ·
   refine vc_skip ?_
   refine vc_region ?_
   refine oq (qv_add rfl rfl (by omega)) ?_
   refine oq (qv_mv (.int .i64 (i + 1)) rfl) ?_
   refine ops_nil ?_
   subst ζ1
   refine ⟨(i + 1), ⟨rfl, rfl, rfl, rfl, (congrArg (Value.int .i64) (show (i + 1) = ((i + 1)) from by omega)), trivial⟩, ⟨rfl, rfl, by omega, by omega, all_snoc hi (fun q => absurd (show x = (p2 X i).a ∧ y = (p2 X i).b from by rw [q]; exact ⟨rfl, rfl⟩) (by assumption))⟩, by omega⟩
 ·
  refine vc_exit ?_
  refine blockQ_hit ?_
  refine vc_seq ?_
  refine vc_region ?_
  refine oq (qv_as (.int .i64 ((-1))) rfl) ?_
  refine ops_nil ?_
  refine vc_ret ?_
  exact rq1 (.int .i64 (ixP X x y)) (congrArg (Value.int .i64) (show ((-1)) = (ixP X x y) from by exact (ixP_none (fun z a b => hi z a (by omega))).symm)) rfl

def kl2 (k : Int × Int) : List Int := [k.1, k.2]
def k2v (k : Int × Int) : Value := .agg ((kl2 k).map (Value.int .i64)).toArray
theorem k2_key : KeyT Tryz.prog 91 k2v := KeyT.arr Tryz.underlying91 Tryz.underlying3 Tryz.ti3 kl2 (fun _ => rfl) fun a b h => by
  simp [kl2] at h
  exact Prod.ext h.1 h.2
/-- The map of the pairs and their list, as one piece. -/
abbrev PRs (bn pp : Nat) (T : PSt) (w : Value) : Res := [Mf bn k2v (Value.int .i64) (pF (vals2 T.1)), Arr 44 pp [w], Gr 50 2 w (vals2 T.1).length (p2s (vals2 T.1))]
abbrev PS (bn pp : Nat) (T : PSt) : Asrt := PkE (PRs bn pp T)

set_option maxRecDepth 100000 in
set_option maxHeartbeats 4000000 in
theorem pair1_c {V : HV} {T : PSt} {x y z : Int} {pn bn pp : Nat} {w : Value} (hx : inR x) (hy : inR y) (hn : Cells V pn [.map (some bn)]) (hT : T.1.length + 1 ≤ 2199023255552) :
    FnC Tryz.prog 48 [(.agg #[(Value.int .i64 x), (Value.int .i64 y), (Value.int .i64 z)]), (Value.pointer (some ⟨pn, 0, none⟩)), (Value.pointer (some ⟨pp, 0, none⟩))] V [(Mf bn k2v (Value.int .i64) (pF (vals2 T.1))), (Arr 44 pp [w]), (Gr 50 2 w ((vals2 T.1).length) ((p2s (vals2 T.1))))] (fun v V' σ' => ∃ (T' : PSt) (w' : Value), σ' = PRs bn pp T' w' ∧ ∃ t, v = .int .i64 t ∧ T'.1.length ≤ T.1.length + 1 ∧ Nx AgP T T' ∧ (∀ L, IvP T L → IvP T' (lfR L t).1) ∧ ∀ F, AgP T' F → F x y z = t) := by
 refine fn_intro (N := 35) Tryz.func48 (by kernel_rfl) rfl rfl rfl (Nat.le_of_ble_eq_true rfl) ?_
 intro w0 D
 have hbd := pF_bd (vals2 T.1) (x, y)
 have hel : (vals2 T.1).length = T.1.length := List.length_map ..
 refine vc_seq ?_
 let ζ4 : Asrt := Gr 50 2 w ((vals2 T.1).length) ((p2s (vals2 T.1)))
 let ζ7 : Asrt := Mf bn k2v (Value.int .i64) (pF (vals2 T.1))
 refine vc_res (σ' := [ζ7, (Arr 44 pp [w]), ζ4]) rfl ?_
 refine vc_region ?_
 refine ops_box (v := (.agg #[(Value.int .i64 x), (Value.int .i64 y), (Value.int .i64 z)])) (cs := [(Value.int .i64 x), (Value.int .i64 y), (Value.int .i64 z)]) rfl rfl (fun b1 => ?_)
 refine oq (qv_as (Value.int .i64 0) rfl) ?_
 refine ops_nil ?_
 refine vc_seq ?_
 let ζ1 : Asrt := Arr 71 b1 [(Value.int .i64 x), (Value.int .i64 y), (Value.int .i64 z)]
 refine vc_res (σ' := [ζ7, (Arr 44 pp [w]), ζ4, ζ1]) rfl ?_
 refine vc_region ?_
 refine oq (qv_iaa (i := 0) (off := 0) Tryz.underlying71 Tryz.size3 rfl rfl (by omega) (by omega) rfl) ?_
 refine oq (qv_ldp (v := (Value.int .i64 x)) Tryz.plain3 rfl (inOc (k := 3) rfl) rfl) ?_
 refine oq (qv_iaa (i := 1) (off := 0) Tryz.underlying71 Tryz.size3 rfl rfl (by omega) (by omega) rfl) ?_
 refine oq (qv_ldp (v := (Value.int .i64 y)) Tryz.plain3 rfl (inOc (k := 3) rfl) rfl) ?_
 refine oq (qv_build (out := [(Value.int .i64 x), (Value.int .i64 y)]) Tryz.build91 [(0, [(Value.int .i64 x)]), (1, [(Value.int .i64 y)])] rfl rfl) ?_
 refine ops_alloc Tryz.ti91 rfl (fun b2 => ?_)
 refine ops_stw (k := 4) (vs := [(Value.int .i64 x), (Value.int .i64 y)]) Tryz.size91 rfl rfl rfl rfl rfl rfl ?_
 refine ops_nil ?_
 refine vc_seq ?_
 let ζ5 : Asrt := Arr 91 b2 [(Value.int .i64 x), (Value.int .i64 y)]
 refine vc_res (σ' := [ζ7, (Arr 44 pp [w]), ζ4, ζ1, ζ5]) rfl ?_
 refine vc_region ?_
 refine oq (qv_ldp (v := (Value.map (some bn))) Tryz.plain88 rfl (inVc hn) rfl) ?_
 refine oq (qv_ldm (vs := [(Value.int .i64 x), (Value.int .i64 y)]) Tryz.agg91 rfl (inOc (k := 4) rfl) rfl rfl) ?_
 refine oq (qv_look (a0 := 0) (key := ((x, y) : Int × Int)) (k := 0) Tryz.underlying88 k2_key Tryz.ti3 rfl rfl rfl) ?_
 let ζ6 : Value := .int .i64 (((pF (vals2 T.1)) (((x, y) : Int × Int))).getD 0)
 let ζ8 : Value := .bool (decide (((pF (vals2 T.1)) (((x, y) : Int × Int))).isSome = true))
 refine oq (qv_mv (.tuple #[ζ6, ζ8]) rfl) ?_
 refine oq (qv_ext ζ6 rfl rfl) ?_
 refine oq (qv_ext ζ8 rfl rfl) ?_
 refine oq (qv_as ζ6 rfl) ?_
 refine oq (qv_as ζ8 rfl) ?_
 refine ops_nil ?_
 refine vc_seq ?_
 refine vc_seq ?_
 refine vc_region ?_
 refine oq (qv_mv ζ8 rfl) ?_
 refine oq (qv_not rfl) ?_
 refine ops_nil ?_
 refine vc_if rfl (fun c1 => ?_) (fun c1 => ?_)
 ·
  refine vc_seq ?_
  refine vc_region ?_
  refine oq (qv_ldp (v := w) Tryz.plain44 rfl (inOc (k := 1) rfl) rfl) ?_
  refine oq (qv_lenGr (k := 2) Tryz.underlying44 rfl rfl) ?_
  let ζ9 : Value := .int .i64 ((((vals2 T.1).length : Nat) : Int))
  refine oq (qv_as ζ9 rfl) ?_
  refine ops_nil ?_
  refine vc_seq ?_
  refine vc_region ?_
  refine oq (qv_ldp (v := (Value.map (some bn))) Tryz.plain88 rfl (inVc hn) rfl) ?_
  refine oq (qv_ldm (vs := [(Value.int .i64 x), (Value.int .i64 y)]) Tryz.agg91 rfl (inOc (k := 4) rfl) rfl rfl) ?_
  refine oq (qv_mv ζ9 rfl) ?_
  refine ops_mapset (k := 0) (key := ((x, y) : Int × Int)) (v := (((vals2 T.1).length : Nat) : Int)) Tryz.underlying88 k2_key rfl rfl rfl rfl ?_
  refine ops_nil ?_
  refine vc_res (σ' := [(Mf bn k2v (Value.int .i64) (setF (pF (vals2 T.1)) (((x, y) : Int × Int)) ((((vals2 T.1).length : Nat) : Int)))), (Arr 44 pp [w]), ζ4, ζ1, ζ5]) rfl ?_
  refine vc_region ?_
  refine oq (qv_ldp (v := w) Tryz.plain44 rfl (inOc (k := 1) rfl) rfl) ?_
  refine oq (qv_iaa (i := 0) (off := 0) Tryz.underlying71 Tryz.size3 rfl rfl (by omega) (by omega) rfl) ?_
  refine oq (qv_ldp (v := (Value.int .i64 x)) Tryz.plain3 rfl (inOc (k := 3) rfl) rfl) ?_
  refine oq (qv_iaa (i := 1) (off := 0) Tryz.underlying71 Tryz.size3 rfl rfl (by omega) (by omega) rfl) ?_
  refine oq (qv_ldp (v := (Value.int .i64 y)) Tryz.plain3 rfl (inOc (k := 3) rfl) rfl) ?_
  refine oq (qv_build (out := [(Value.int .i64 x), (Value.int .i64 y)]) Tryz.build50 [(0, [(Value.int .i64 x)]), (1, [(Value.int .i64 y)])] rfl rfl) ?_
  refine ops_lit (n := 1) (s := 2) (cs := [(Value.int .i64 x), (Value.int .i64 y)]) Tryz.underlying44 Tryz.ti50 (Nat.le_of_ble_eq_true rfl) rfl rfl rfl (Nat.le_of_ble_eq_true rfl) rfl (fun b3 => ?_)
  subst ζ4 ζ7 ζ1 ζ5 ζ6 ζ8 ζ9
  refine ops_append (k := 2) (n := (vals2 T.1).length) (s := 2) (m := 1) (v := w) (xs := (p2s (vals2 T.1))) (news := [(Value.int .i64 x), (Value.int .i64 y)]) Tryz.underlying44 Tryz.ti50 rfl (Nat.le_of_ble_eq_true rfl) rfl rfl rfl rfl (news_own (j := 5) rfl) (by simp [Value.oneCell']) (by omega) (by simp only [maxLen]; omega) (fun v1 hn1 => ?_)
  refine ops_gr1 (k := 2) rfl (fun ho1 => ?_)
  refine ops_stp (k := 1) (off := 0) (cs := [w]) Tryz.size44 rfl (rfl : ev _ _ = v1) ho1 rfl (Nat.le_of_ble_eq_true rfl) ?_
  refine ops_nil ?_
  refine vc_seq ?_
  let ζ1 : Asrt := Arr 71 b1 [(Value.int .i64 x), (Value.int .i64 y), (Value.int .i64 z)]
  let ζ2 : Asrt := Mf bn k2v (Value.int .i64) (setF (pF (vals2 T.1)) (((x, y) : Int × Int)) ((((vals2 T.1).length : Nat) : Int)))
  let ζ3 : Asrt := Gr 50 2 v1 (((vals2 T.1).length + 1)) (((p2s (vals2 T.1)) ++ [(Value.int .i64 x), (Value.int .i64 y)]))
  let ζ5 : Asrt := Arr 91 b2 [(Value.int .i64 x), (Value.int .i64 y)]
  let ζ10 : Asrt := Arr 50 b3 [(Value.int .i64 x), (Value.int .i64 y)]
  refine vc_res (σ' := [ζ2, (Arr 44 pp [v1]), ζ3, ζ1, ζ5, ζ10]) rfl ?_
  refine vc_region ?_
  let ζ9 : Value := .int .i64 ((((vals2 T.1).length : Nat) : Int))
  refine oq (qv_mv ζ9 rfl) ?_
  refine oq (qv_as ζ9 rfl) ?_
  refine ops_nil ?_
  refine vc_drop [ζ2, (Arr 44 pp [v1]), ζ3, ζ1, ζ5] [ζ10] ((List.perm_middle (l₁ := [ζ2, (Arr 44 pp [v1]), ζ3, ζ1, ζ5]) (l₂ := [])).trans (List.perm_append_comm (l₁ := [ζ10]))) ?_
  refine vc_drop [ζ2, (Arr 44 pp [v1]), ζ3, ζ1] [ζ5] ((List.perm_middle (l₁ := [ζ2, (Arr 44 pp [v1]), ζ3, ζ1]) (l₂ := [])).trans (List.perm_append_comm (l₁ := [ζ5]))) ?_
  refine vc_drop [ζ2, (Arr 44 pp [v1]), ζ3] [ζ1] ((List.perm_middle (l₁ := [ζ2, (Arr 44 pp [v1]), ζ3]) (l₂ := [])).trans (List.perm_append_comm (l₁ := [ζ1]))) ?_
  refine vc_ret ?_
  refine rq1 ζ9 rfl ?_
  have hno : pF (vals2 T.1) (x, y) = none := Option.not_isSome_iff_eq_none.1 c1
  have e : (vals2 T.1).length = T.1.length := List.length_map ..
  subst ζ1 ζ2 ζ3 ζ5 ζ10 ζ9
  refine ⟨addP T x y hx hy hno, v1, ?_, (T.1.length : Int), by rw [← e], by show (T.1 ++ [_]).length ≤ _; rw [List.length_append]; exact Nat.le_refl _, fun F h => (addP_nx h).1, fun L h => ivP_new h (by show (T.1 ++ [_]).length = _; rw [List.length_append]; rfl), fun F h => (addP_nx h).2 z⟩
  rw [PRs, addP_pF, addP_vals, p2s_snoc, List.length_append, e]; rfl
 ·
  refine vc_skip ?_
  refine vc_seq ?_
  refine vc_region ?_
  refine oq (qv_mv ζ6 rfl) ?_
  refine oq (qv_as ζ6 rfl) ?_
  refine ops_nil ?_
  refine vc_drop [ζ7, (Arr 44 pp [w]), ζ4, ζ1] [ζ5] ((List.perm_middle (l₁ := [ζ7, (Arr 44 pp [w]), ζ4, ζ1]) (l₂ := [])).trans (List.perm_append_comm (l₁ := [ζ5]))) ?_
  refine vc_drop [ζ7, (Arr 44 pp [w]), ζ4] [ζ1] ((List.perm_middle (l₁ := [ζ7, (Arr 44 pp [w]), ζ4]) (l₂ := [])).trans (List.perm_append_comm (l₁ := [ζ1]))) ?_
  refine vc_ret ?_
  refine rq1 ζ6 rfl ?_
  obtain ⟨i, hi⟩ := Option.isSome_iff_exists.1 (Decidable.not_not.1 c1)
  have hb := (pF_some hi).1
  subst ζ4 ζ7 ζ1 ζ5 ζ6 ζ8
  exact ⟨T, w, rfl, i, by rw [hi]; rfl, by omega, fun _ h => h, fun L h => ivP_hit h hb.1 (by have e : (vals2 T.1).length = T.1.length := List.length_map ..; omega), fun F hF => hF x y z i hi⟩

theorem pairf_c {V : HV} {T : PSt} {x y z : Int} {pn bn pp : Nat} (hx : inR x) (hy : inR y) (hn : Cells V pn [.map (some bn)]) (hT : T.1.length + 1 ≤ 2199023255552) :
    FnC Tryz.prog 48 [.agg #[.int .i64 x, .int .i64 y, .int .i64 z], pt pn, pt pp] V [PS bn pp T] (fun v _ σ' => ∃ T' t, v = .int .i64 t ∧ σ' = [PS bn pp T'] ∧ T'.1.length ≤ T.1.length + 1 ∧ Nx AgP T T' ∧ (∀ L, IvP T L → IvP T' (lfR L t).1) ∧ ∀ F, AgP T' F → F x y z = t) := by
  refine (FnC.packed (σ := PRs bn pp T) (τ := fun T' w' => PRs bn pp T' w') (Ψ := fun v _ T' => ∃ t, v = .int .i64 t ∧ T'.1.length ≤ T.1.length + 1 ∧ Nx AgP T T' ∧ (∀ L, IvP T L → IvP T' (lfR L t).1) ∧ ∀ F, AgP T' F → F x y z = t) (.slice none 0 0) (fun w => pair1_c hx hy hn hT)).mono ?_
  rintro v V' σ' _ ⟨T', e, t, h1, h2⟩
  exact ⟨T', t, h1, e, h2⟩

end Go.Proofs.YtkmhjcjpohpiaaaGreat
