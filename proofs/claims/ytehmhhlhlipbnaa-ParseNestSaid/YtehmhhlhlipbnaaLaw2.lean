/-
 ParseNest, gone through: what it answers.
-/
import Derived.Test.YtehmhhlhlipbnaaLaw1
set_option autoImplicit false
set_option linter.unusedVariables false
set_option linter.unusedSimpArgs false
namespace Go.Proofs.Ytehmhhlhlipbnaa.Vs
open Go.VI Go.Proofs
variable {orc : CallF}
theorem guard34 : Try.prog.eqGuardType Try.prog.depth 34 = false := by kernel_rfl
theorem stood34 : Try.prog.stoodInHeld 34 = false := by kernel_rfl
theorem eq3 (d : Nat) (a b : Int) : eqA Try.prog (d + 1) 3 (.int .i64 a) (.int .i64 b) = some (decide (a = b)) := by
 simp only [eqA, Try.underlying3, eqI_eq, if_true]
theorem eq32 (d : Nat) (a b : Int) : eqA Try.prog (d + 1) 32 (.int .i64 a) (.int .i64 b) = some (decide (a = b)) := by
 simp only [eqA, Try.underlying32, eqI_eq, if_true]
theorem eqF34 (eq : TypeId → AV → AV → Option Bool) (f1 f2 : Field) (h1 : f1.name ≠ "_") (h2 : f2.name ≠ "_") (o1 : f1.offset = 0) (o2 : f2.offset = 1) (t1 : f1.type = 3) (t2 : f2.type = 32) (a b c d : Int) (e1 : eq 3 (.int .i64 a) (.int .i64 c) = some (decide (a = c))) (e2 : eq 32 (.int .i64 b) (.int .i64 d) = some (decide (b = d))) :
  eqA.eqFields Try.prog eq [f1, f2] [AV.int IntKind.i64 a, AV.int IntKind.i64 b] [AV.int IntKind.i64 c, AV.int IntKind.i64 d] = some (decide (a = c) && decide (b = d)) := by
 have p1 : ∀ x y : Int, partOf Try.prog 3 [AV.int .i64 x, AV.int .i64 y] 0 = some (.int .i64 x) := fun x y => by
  unfold partOf; simp only [Ty.agg3, Ty.csz3]; rfl
 have p2 : ∀ x y : Int, partOf Try.prog 32 [AV.int .i64 x, AV.int .i64 y] 1 = some (.int .i64 y) := fun x y => by
  unfold partOf; simp only [Ty.agg32, Ty.csz32]; rfl
 simp only [eqA.eqFields, h1, h2, o1, o2, t1, t2, p1, p2, e1, e2, ne_eq, not_false_eq_true, if_true]
 by_cases c1 : a = c <;> by_cases c2 : b = d <;> simp [c1, c2]
theorem eq34 (n : Nat) (a b c d : Int) : eqA Try.prog (n + 2) 34 (.agg [.int .i64 a, .int .i64 b]) (.agg [.int .i64 c, .int .i64 d]) = some (decide (a = c) && decide (b = d)) := by
 unfold eqA
 simp only [Try.underlying34, stood34, Bool.false_eq_true, if_false]
 exact eqF34 _ _ _ (by decide) (by decide) rfl rfl rfl rfl a b c d (eq3 n a c) (eq32 n b d)
theorem r_eq34 {e : Env} {h : AH} {x y : Operand} {t' : TypeId} {a b c d : Int} (hx : ev e x = some (.agg [.int .i64 a, .int .i64 b])) (hy : ev e y = some (.agg [.int .i64 c, .int .i64 d])) : readOp Try.prog e h (.binOp .eql 34 x y t') = some (.bool (decide (a = c) && decide (b = d))) := by
 simp only [readOp, doBin, hx, hy, binA, eqOk, guard34]
 exact congrArg (Option.map AV.bool) (eq34 9998 a b c d)
/-- what ParseNest asks -/
structure NestOk (p q : List ND × Int × Int) (nest : Int) : Prop where
 deep : p.2.2 = 31 → 65536 < nest ∨ q.2.2 = 31
 bad : p.2.2 ≠ 31 → p.2.2 ≠ 0 → q.2.1 = p.2.1 ∧ q.2.2 = p.2.2
 pos : p.2.2 = 0 → 0 < p.1.length ∧ p.1.length ≤ 70000
 low : p.2.2 = 0 → ∀ x, (hts p.1 p.1.length)[p.1.length - 1]? = some x → x ≤ nest → q = (p.1, 0, 0)
 high : p.2.2 = 0 → ∀ x, (hts p.1 p.1.length)[p.1.length - 1]? = some x → nest < x → ∃ i v y, i < p.1.length ∧ p.1[i]? = some v ∧ (hts p.1 p.1.length)[i]? = some y ∧ nest < y ∧ (∀ j z, j < i → (hts p.1 p.1.length)[j]? = some z → z ≤ nest) ∧ q = ([], v.at_, 31)
set_option maxRecDepth 100000 in
set_option maxHeartbeats 4000000 in
theorem parseNest_fin (ho : NoOrcBut [7, 21, 69, 81] orc) {H0 : AH} (W0 : Wf H0) (ho81 : ∃ sg, ∀ H, orc 81 [] H = some (.ret sg, H)) (tx : Nat → List UInt8) (ho69 : ∀ k : Nat, k < 67 → ∀ H, orc 69 [.int .i64 (k : Int)] H = some (.ret (.str (tx k)), H)) (ho7 : ∀ H, orc 7 [] H = some (.ret (.bool true), H)) (htr : TryOk orc tx) (src : List UInt8) (sv : AV) (hS : SB H0 5 src sv) (nest : Int) (hK : NestOk (parseF tx src 65536) (parseF tx src nest) nest) : Fin Try.prog orc 6 [sv, .int .i64 (nest)] H0 (fun r H' => r = .bool true ∧ Ext H0 H') := by
 have E0 := Ext.refl W0
 refine fin_of Try.func6 rfl (by rw [Try.ntmps6]; simp) (ho _ rfl _ _) ?_
 rw [Try.ntmps6]
 refine w_seq ?_
 refine w_region ?_
 refine o_as ?_
 refine o_nil ?_
 refine w_seq ?_
 refine w_seq ?_
 refine w_region ?_
 refine o_cl rfl rfl tS rfl (fin_orc ho7 W0) rfl rfl ?_; rintro _ H1 ⟨rfl, X1⟩
 have W1 := X1.wf; have E1 := E0.trans X1
 have n1 := X1.n
 refine o_rd (r_not tE) rfl rfl ?_
 refine o_nil ?_
 refine w_cond (t := false) tE (fun h => by cases h) (fun _ => ?_)
 refine w_skip ?_
 refine w_seq ?_
 refine w_region ?_
 refine o_mv ?_
 refine o_cl rfl rfl tS rfl (parse_fin ho W1 ho81 tx ho69 htr src _ (hS.ext E1) (65536) (fun h => parse_ok h)) rfl rfl ?_; rintro _ H2 ⟨s2, rfl, hNS2, X2⟩
 have W2 := X2.wf; have E2 := E1.trans X2
 have n2 := X2.n
 refine o_mv ?_
 refine o_rd (r_extract tE rfl) rfl rfl ?_
 refine o_rd (r_extract tE rfl) rfl rfl ?_
 refine o_nw W2 (a_alloc Ty.zero34) rfl rfl rfl (by simp) ?_; intro H3 n3 W3 X3 A3
 have A3 : H3.at H2.n = some (.row [.int .i64 (0), .int .i64 (0)] 34 false none) := A3
 have E3 := E2.trans X3
 have g3 : H0.n ≤ H2.n := E2.n
 refine o_as ?_
 refine o_st W3 tE tE A3 Ty.csz34 rfl (Nat.le_of_ble_eq_true rfl) (by rfl) rfl rfl ?_; intro H4 n4 W4 A4 K4
 have A4 : H4.at H2.n = some (.row [.int .i64 ((parseF tx src 65536).2.1), .int .i64 ((parseF tx src 65536).2.2)] 34 false none) := A4
 have E4 := Ext.put W0 E3 (by have := E3.n; omega) K4 n4 W4
 refine o_nil ?_
 refine w_seq ?_
 refine w_region ?_
 refine o_mv ?_
 refine o_mv ?_
 refine o_cl rfl rfl tS rfl (parse_fin ho W4 ho81 tx ho69 htr src _ (hS.ext E4) (nest) (fun h => parse_ok h)) rfl rfl ?_; rintro _ H5 ⟨s5, rfl, hNS5, X5⟩
 have W5 := X5.wf; have E5 := E4.trans X5
 have A4 := X5.keep _ _ A4
 have n5 := X5.n
 refine o_mv ?_
 refine o_rd (r_extract tE rfl) rfl rfl ?_
 refine o_rd (r_extract tE rfl) rfl rfl ?_
 refine o_nw W5 (a_alloc Ty.zero34) rfl rfl rfl (by simp) ?_; intro H6 n6 W6 X6 A6
 have A6 : H6.at H5.n = some (.row [.int .i64 (0), .int .i64 (0)] 34 false none) := A6
 have E6 := E5.trans X6
 have g6 : H0.n ≤ H5.n := E5.n
 have A4 := X6.keep _ _ A4
 refine o_as ?_
 refine o_st W6 tE tE A6 Ty.csz34 rfl (Nat.le_of_ble_eq_true rfl) (by rfl) rfl rfl ?_; intro H7 n7 W7 A7 K7
 have A7 : H7.at H5.n = some (.row [.int .i64 ((parseF tx src nest).2.1), .int .i64 ((parseF tx src nest).2.2)] 34 false none) := A7
 have E7 := Ext.put W0 E6 (by have := E6.n; omega) K7 n7 W7
 have A4 := K7.own A4 (by omega)
 refine o_nil ?_
 refine w_seq ?_
 refine w_seq ?_
 refine w_region ?_
 refine o_rd (r_fieldAddr Ty.fo34_1 tE) rfl rfl ?_
 refine o_rd (r_load1 (v := .int .i64 ((parseF tx src 65536).2.2)) Ty.agg32 tE (read_mt A4 (Nat.le_of_ble_eq_true rfl))) rfl rfl ?_
 refine o_rd (r_eq (a := (parseF tx src 65536).2.2) (b := 31) tE tE) rfl rfl ?_
 refine o_nil ?_
 refine w_cond tE (fun hB8 => ?_) (fun hB8 => ?_)
 ·have hc8 := dec_t hB8
  refine w_seq ?_
  refine w_region ?_
  refine o_mv ?_
  refine o_rd (r_gt (a := nest) (b := 65536) tE tE) rfl rfl ?_
  refine o_mv ?_
  cases hg9 : (decide (65536 < nest) : Bool)
  ·have hg9 := dec_f hg9
   refine o_rd (r_fieldAddr Ty.fo34_1 tE) rfl ((wanted_of (b := false) rfl rfl rfl tV).trans rfl) ?_
   refine o_rd (r_load1 (v := .int .i64 ((parseF tx src nest).2.2)) Ty.agg32 tE (read_mt A7 (Nat.le_of_ble_eq_true rfl))) rfl ((wanted_of (b := false) rfl rfl rfl tV).trans rfl) ?_
   refine o_rd (r_eq (a := (parseF tx src nest).2.2) (b := 31) tE tE) rfl ((wanted_of (b := false) rfl rfl rfl tV).trans rfl) ?_
   refine o_rd (r_pick (t := false) tE (fun h => by cases h) (fun _ => tE)) rfl rfl ?_
   refine o_as ?_
   refine o_nil ?_
   refine w_ret ⟨.inr rfl, rfl, .bool (decide ((parseF tx src nest).2.2 = 31)), (show resultA Try.prog [.tmp 4] _ = _ by simp only [resultA, resultsA, envOf, val_set, ↓reduceIte, Nat.reduceEqDiff, Option.map_some] <;> rfl), ?_⟩
   try dsimp only
   refine ⟨congrArg AV.bool ?_, E7⟩; first | rfl | (exfalso; omega) | (have := hK.deep (by omega); exact decide_eq_true (by omega)) | (obtain ⟨q1, q2⟩ := hK.bad (by omega) (by omega); rw [q1, q2]; simp) | (have hlast : (hts (parseF tx src 65536).1 (parseF tx src 65536).1.length)[(parseF tx src 65536).1.length - 1]? = some ((hts (parseF tx src 65536).1 (parseF tx src 65536).1.length)[(parseF tx src 65536).1.length - 1]'hil2) := List.getElem?_eq_getElem hil2; have hq := hK.low (by omega) _ hlast (by omega); rw [hq]; exact nodesB_t.2 (nodesP_eq.2 rfl)) | (exfalso; have hlast : (hts (parseF tx src 65536).1 (parseF tx src 65536).1.length)[(parseF tx src 65536).1.length - 1]? = some ((hts (parseF tx src 65536).1 (parseF tx src 65536).1.length)[(parseF tx src 65536).1.length - 1]'hil2) := List.getElem?_eq_getElem hil2; have hq := hK.low (by omega) _ hlast (by omega); rw [hq] at hg9; simp at hg9)
  ·have hg9 := dec_t hg9
   refine o_sk rfl ((wanted_of (b := true) rfl rfl rfl tV).trans rfl) ?_
   refine o_sk rfl ((wanted_of (b := true) rfl rfl rfl tV).trans rfl) ?_
   refine o_sk rfl ((wanted_of (b := true) rfl rfl rfl tV).trans rfl) ?_
   refine o_rd (r_pick (t := true) tE (fun _ => tE) (fun h => by cases h)) rfl rfl ?_
   refine o_as ?_
   refine o_nil ?_
   refine w_ret ⟨.inr rfl, rfl, .bool (true), (show resultA Try.prog [.tmp 4] _ = _ by simp only [resultA, resultsA, envOf, val_set, ↓reduceIte, Nat.reduceEqDiff, Option.map_some] <;> rfl), ?_⟩
   try dsimp only
   refine ⟨congrArg AV.bool ?_, E7⟩; first | rfl | (exfalso; omega) | (have := hK.deep (by omega); exact decide_eq_true (by omega)) | (obtain ⟨q1, q2⟩ := hK.bad (by omega) (by omega); rw [q1, q2]; simp) | (have hlast : (hts (parseF tx src 65536).1 (parseF tx src 65536).1.length)[(parseF tx src 65536).1.length - 1]? = some ((hts (parseF tx src 65536).1 (parseF tx src 65536).1.length)[(parseF tx src 65536).1.length - 1]'hil2) := List.getElem?_eq_getElem hil2; have hq := hK.low (by omega) _ hlast (by omega); rw [hq]; exact nodesB_t.2 (nodesP_eq.2 rfl)) | (exfalso; have hlast : (hts (parseF tx src 65536).1 (parseF tx src 65536).1.length)[(parseF tx src 65536).1.length - 1]? = some ((hts (parseF tx src 65536).1 (parseF tx src 65536).1.length)[(parseF tx src 65536).1.length - 1]'hil2) := List.getElem?_eq_getElem hil2; have hq := hK.low (by omega) _ hlast (by omega); rw [hq] at hg9; simp at hg9)
 ·have hc8 := dec_f hB8
  refine w_skip ?_
  refine w_seq ?_
  refine w_seq ?_
  refine w_region ?_
  refine o_rd (r_fieldAddr Ty.fo34_1 tE) rfl rfl ?_
  refine o_rd (r_load1 (v := .int .i64 ((parseF tx src 65536).2.2)) Ty.agg32 tE (read_mt A4 (Nat.le_of_ble_eq_true rfl))) rfl rfl ?_
  refine o_rd (r_ne (a := (parseF tx src 65536).2.2) (b := 0) tE tE) rfl rfl ?_
  refine o_nil ?_
  refine w_cond tE (fun hB10 => ?_) (fun hB10 => ?_)
  ·have hc10 := dec_t hB10
   refine w_seq ?_
   refine w_region ?_
   refine o_rd (r_loadN (cs := [.int .i64 ((parseF tx src nest).2.1), .int .i64 ((parseF tx src nest).2.2)]) Ty.agg34 Ty.csz34 tE (read_mt A7 (Nat.le_of_ble_eq_true rfl))) rfl rfl ?_
   refine o_rd (r_loadN (cs := [.int .i64 ((parseF tx src 65536).2.1), .int .i64 ((parseF tx src 65536).2.2)]) Ty.agg34 Ty.csz34 tE (read_mt A4 (Nat.le_of_ble_eq_true rfl))) rfl rfl ?_
   refine o_rd (r_eq34 tE tE) rfl rfl ?_
   refine o_as ?_
   refine o_nil ?_
   refine w_ret ⟨.inr rfl, rfl, .bool ((decide ((parseF tx src nest).2.1 = (parseF tx src 65536).2.1) && decide ((parseF tx src nest).2.2 = (parseF tx src 65536).2.2))), (show resultA Try.prog [.tmp 4] _ = _ by simp only [resultA, resultsA, envOf, val_set, ↓reduceIte, Nat.reduceEqDiff, Option.map_some] <;> rfl), ?_⟩
   try dsimp only
   refine ⟨congrArg AV.bool ?_, E7⟩; first | rfl | (exfalso; omega) | (have := hK.deep (by omega); exact decide_eq_true (by omega)) | (obtain ⟨q1, q2⟩ := hK.bad (by omega) (by omega); rw [q1, q2]; simp) | (have hlast : (hts (parseF tx src 65536).1 (parseF tx src 65536).1.length)[(parseF tx src 65536).1.length - 1]? = some ((hts (parseF tx src 65536).1 (parseF tx src 65536).1.length)[(parseF tx src 65536).1.length - 1]'hil2) := List.getElem?_eq_getElem hil2; have hq := hK.low (by omega) _ hlast (by omega); rw [hq]; exact nodesB_t.2 (nodesP_eq.2 rfl)) | (exfalso; have hlast : (hts (parseF tx src 65536).1 (parseF tx src 65536).1.length)[(parseF tx src 65536).1.length - 1]? = some ((hts (parseF tx src 65536).1 (parseF tx src 65536).1.length)[(parseF tx src 65536).1.length - 1]'hil2) := List.getElem?_eq_getElem hil2; have hq := hK.low (by omega) _ hlast (by omega); rw [hq] at hc10; simp at hc10)
  ·have hc10 := dec_fn hB10
   refine w_skip ?_
   refine w_seq ?_
   refine w_region ?_
   have hpos := hK.pos (by omega)
   have hhl := hts_len (parseF tx src 65536).1 (parseF tx src 65536).1.length
   refine o_mv ?_
   refine o_cl rfl rfl tS rfl (height_fin ho W7 (parseF tx src 65536).1 s2 (hNS2.ext (Ext.put W2 (((Ext.put W2 X3 (by omega) K4 n4 W4).trans X5).trans X6) (by omega) K7 n7 W7)) (by omega) hpos.1) rfl rfl ?_; rintro _ H11 ⟨locH, offH, capH, rfl, X11, hrH⟩
   have W11 := X11.wf; have E11 := E7.trans X11
   have A4 := X11.keep _ _ A4
   have A7 := X11.keep _ _ A7
   have n11 := X11.n
   refine o_as ?_
   refine o_nil ?_
   refine w_seq ?_
   refine w_seq ?_
   refine w_region ?_
   refine o_mv ?_
   refine o_rd (r_len (n := (parseF tx src 65536).1.length) Try.underlying39 tE rfl) rfl rfl ?_
   refine o_mv ?_
   refine o_rd (r_len (n := (parseF tx src 65536).1.length) Try.underlying31 tE (hNS2.lenOf)) rfl rfl ?_
   refine o_rd (r_ne (a := (((parseF tx src 65536).1.length : Nat) : Int)) (b := (((parseF tx src 65536).1.length : Nat) : Int)) tE tE) rfl rfl ?_
   refine o_mv ?_
   cases hg12 : (decide ((((parseF tx src 65536).1.length : Nat) : Int) ≠ (((parseF tx src 65536).1.length : Nat) : Int)) : Bool)
   ·have hg12 := dec_fn hg12
    refine o_rd (r_move tE) rfl ((wanted_of (b := false) rfl rfl rfl tV).trans rfl) ?_
    refine o_rd (r_len (n := (parseF tx src 65536).1.length) Try.underlying31 tE (hNS2.lenOf)) rfl ((wanted_of (b := false) rfl rfl rfl tV).trans rfl) ?_
    refine o_rd (r_eq (a := (((parseF tx src 65536).1.length : Nat) : Int)) (b := 0) tE tE) rfl ((wanted_of (b := false) rfl rfl rfl tV).trans rfl) ?_
    refine o_rd (r_pick (t := false) tE (fun h => by cases h) (fun _ => tE)) rfl rfl ?_
    refine o_nil ?_
    refine w_cond tE (fun hB13 => ?_) (fun hB13 => ?_)
    ·have hc13 := dec_t hB13
     refine w_seq ?_
     refine w_region ?_
     refine o_as ?_
     refine o_nil ?_
     refine w_ret ⟨.inr rfl, rfl, .bool (false), (show resultA Try.prog [.tmp 4] _ = _ by simp only [resultA, resultsA, envOf, val_set, ↓reduceIte, Nat.reduceEqDiff, Option.map_some] <;> rfl), ?_⟩
     try dsimp only
     refine ⟨congrArg AV.bool ?_, E11⟩; first | rfl | (exfalso; omega) | (have := hK.deep (by omega); exact decide_eq_true (by omega)) | (obtain ⟨q1, q2⟩ := hK.bad (by omega) (by omega); rw [q1, q2]; simp) | (have hlast : (hts (parseF tx src 65536).1 (parseF tx src 65536).1.length)[(parseF tx src 65536).1.length - 1]? = some ((hts (parseF tx src 65536).1 (parseF tx src 65536).1.length)[(parseF tx src 65536).1.length - 1]'hil2) := List.getElem?_eq_getElem hil2; have hq := hK.low (by omega) _ hlast (by omega); rw [hq]; exact nodesB_t.2 (nodesP_eq.2 rfl)) | (exfalso; have hlast : (hts (parseF tx src 65536).1 (parseF tx src 65536).1.length)[(parseF tx src 65536).1.length - 1]? = some ((hts (parseF tx src 65536).1 (parseF tx src 65536).1.length)[(parseF tx src 65536).1.length - 1]'hil2) := List.getElem?_eq_getElem hil2; have hq := hK.low (by omega) _ hlast (by omega); rw [hq] at hc13; simp at hc13)
    ·have hc13 := dec_f hB13
     refine w_skip ?_
     refine w_seq ?_
     refine w_seq ?_
     refine w_region ?_
     refine o_mv ?_
     refine o_mv ?_
     refine o_mv ?_
     refine o_rd (r_len (n := (parseF tx src 65536).1.length) Try.underlying39 tE rfl) rfl rfl ?_
     refine o_rd (r_subE (a := (((parseF tx src 65536).1.length : Nat) : Int)) (b := 1) (c := (((parseF tx src 65536).1.length - 1 : Nat) : Int)) tE tE (by omega) (by omega) (by omega)) rfl rfl ?_
     have hil : (parseF tx src 65536).1.length - 1 < (parseF tx src 65536).1.length := by omega
     have hil2 : (parseF tx src 65536).1.length - 1 < (hts (parseF tx src 65536).1 (parseF tx src 65536).1.length).length := by rw [hhl]; exact hil
     have hrd := int_at hrH hhl hil2
     refine o_rd (r_indexAddr Try.underlying39 Ty.csz3 tE tE hil) rfl rfl ?_
     refine o_rd (r_load1 Ty.agg3 tE (Ext.read (H := H11) ((Ext.refl W11)) hrd)) rfl rfl ?_
     refine o_rd (r_ge (a := nest) (b := ((hts (parseF tx src 65536).1 (parseF tx src 65536).1.length)[(parseF tx src 65536).1.length - 1]'hil2)) tE tE) rfl rfl ?_
     refine o_nil ?_
     refine w_cond tE (fun hB14 => ?_) (fun hB14 => ?_)
     ·have hc14 := dec_t hB14
      refine w_seq ?_
      refine w_region ?_
      refine o_rd (r_loadN (cs := [.int .i64 ((parseF tx src nest).2.1), .int .i64 ((parseF tx src nest).2.2)]) Ty.agg34 Ty.csz34 tE (read_mt A7 (Nat.le_of_ble_eq_true rfl))) rfl rfl ?_
      refine o_rd (r_build (cs := [.int .i64 (0), .int .i64 (0)]) Ty.zero34 Ty.pl34 tP rfl) rfl rfl ?_
      refine o_rd (r_eq34 tE tE) rfl rfl ?_
      refine o_mv ?_
      cases hg15 : ((decide ((parseF tx src nest).2.1 = 0) && decide ((parseF tx src nest).2.2 = 0)) : Bool)
      ·skip
       refine o_sk rfl ((wanted_of (b := false) rfl rfl rfl tV).trans rfl) ?_
       refine o_sk rfl ((wanted_of (b := false) rfl rfl rfl tV).trans rfl) ?_
       refine o_sk rfl ((wanted_of (b := false) rfl rfl rfl tV).trans rfl) ?_
       refine o_rd (r_pick (t := false) tE (fun h => by cases h) (fun _ => tE)) rfl rfl ?_
       refine o_as ?_
       refine o_nil ?_
       refine w_ret ⟨.inr rfl, rfl, .bool (false), (show resultA Try.prog [.tmp 4] _ = _ by simp only [resultA, resultsA, envOf, val_set, ↓reduceIte, Nat.reduceEqDiff, Option.map_some] <;> rfl), ?_⟩
       try dsimp only
       refine ⟨congrArg AV.bool ?_, E11⟩; first | rfl | (exfalso; omega) | (have := hK.deep (by omega); exact decide_eq_true (by omega)) | (obtain ⟨q1, q2⟩ := hK.bad (by omega) (by omega); rw [q1, q2]; simp) | (have hlast : (hts (parseF tx src 65536).1 (parseF tx src 65536).1.length)[(parseF tx src 65536).1.length - 1]? = some ((hts (parseF tx src 65536).1 (parseF tx src 65536).1.length)[(parseF tx src 65536).1.length - 1]'hil2) := List.getElem?_eq_getElem hil2; have hq := hK.low (by omega) _ hlast (by omega); rw [hq]; exact nodesB_t.2 (nodesP_eq.2 rfl)) | (exfalso; have hlast : (hts (parseF tx src 65536).1 (parseF tx src 65536).1.length)[(parseF tx src 65536).1.length - 1]? = some ((hts (parseF tx src 65536).1 (parseF tx src 65536).1.length)[(parseF tx src 65536).1.length - 1]'hil2) := List.getElem?_eq_getElem hil2; have hq := hK.low (by omega) _ hlast (by omega); rw [hq] at hg15; simp at hg15)
      ·skip
       refine o_rd (r_move tE) rfl ((wanted_of (b := true) rfl rfl rfl tV).trans rfl) ?_
       refine o_rd (r_move tE) rfl ((wanted_of (b := true) rfl rfl rfl tV).trans rfl) ?_
       refine o_cl rfl rfl tS rfl (nodes_fin ho W11 false (parseF tx src 65536).1 (parseF tx src nest).1 _ _ (hNS2.ext ((Ext.put W2 (((Ext.put W2 X3 (by omega) K4 n4 W4).trans X5).trans X6) (by omega) K7 n7 W7).trans X11)) (hNS5.ext ((Ext.put W5 X6 (by omega) K7 n7 W7).trans X11))) rfl ((wanted_of (b := true) rfl rfl rfl tV).trans rfl) ?_; rintro _ H16 ⟨rfl, X16⟩
       have W16 := X16.wf; have E16 := E11.trans X16
       have A4 := X16.keep _ _ A4
       have A7 := X16.keep _ _ A7
       have n16 := X16.n
       refine o_rd (r_pick (t := true) tE (fun _ => tE) (fun h => by cases h)) rfl rfl ?_
       refine o_as ?_
       refine o_nil ?_
       refine w_ret ⟨.inr rfl, rfl, .bool (nodesB false (parseF tx src 65536).1 (parseF tx src nest).1), (show resultA Try.prog [.tmp 4] _ = _ by simp only [resultA, resultsA, envOf, val_set, ↓reduceIte, Nat.reduceEqDiff, Option.map_some] <;> rfl), ?_⟩
       try dsimp only
       refine ⟨congrArg AV.bool ?_, E16⟩; first | rfl | (exfalso; omega) | (have := hK.deep (by omega); exact decide_eq_true (by omega)) | (obtain ⟨q1, q2⟩ := hK.bad (by omega) (by omega); rw [q1, q2]; simp) | (have hlast : (hts (parseF tx src 65536).1 (parseF tx src 65536).1.length)[(parseF tx src 65536).1.length - 1]? = some ((hts (parseF tx src 65536).1 (parseF tx src 65536).1.length)[(parseF tx src 65536).1.length - 1]'hil2) := List.getElem?_eq_getElem hil2; have hq := hK.low (by omega) _ hlast (by omega); rw [hq]; exact nodesB_t.2 (nodesP_eq.2 rfl)) | (exfalso; have hlast : (hts (parseF tx src 65536).1 (parseF tx src 65536).1.length)[(parseF tx src 65536).1.length - 1]? = some ((hts (parseF tx src 65536).1 (parseF tx src 65536).1.length)[(parseF tx src 65536).1.length - 1]'hil2) := List.getElem?_eq_getElem hil2; have hq := hK.low (by omega) _ hlast (by omega); rw [hq] at hg15; simp at hg15)
     ·have hc14 := dec_f hB14
      refine w_skip ?_
      refine w_seq ?_
      refine w_region ?_
      refine o_as ?_
      refine o_nil ?_
      refine w_seq ?_
      refine w_block ?_
      have hlast : (hts (parseF tx src 65536).1 (parseF tx src 65536).1.length)[(parseF tx src 65536).1.length - 1]? = some ((hts (parseF tx src 65536).1 (parseF tx src 65536).1.length)[(parseF tx src 65536).1.length - 1]'hil2) := List.getElem?_eq_getElem hil2
      obtain ⟨i0, v0, y0, hi0, hv0, hy0, hn0, hbe, hq⟩ := hK.high (by omega) _ hlast (by omega)
      refine w_loop (fun m s => ∃ (e : Env) (H : AH) (i : Nat), s = ⟨e, H, []⟩ ∧ e.val 1 = .int .i64 (nest) ∧ e.val 4 = .bool (false) ∧ e.val 5 = s2 ∧ e.val 7 = s5 ∧ e.val 8 = .ptr (.mt (H5.n)) (0) ∧ e.val 9 = .sl locH (offH) ((parseF tx src 65536).1.length) capH ∧ e.val 10 = .int .i64 (((i : Nat) : Int)) ∧ Wf H ∧ Ext H0 H ∧ H.at (H2.n) = some (.row [.int .i64 ((parseF tx src 65536).2.1), .int .i64 ((parseF tx src 65536).2.2)] 34 false none) ∧ H.at (H5.n) = some (.row [.int .i64 ((parseF tx src nest).2.1), .int .i64 ((parseF tx src nest).2.2)] 34 false none) ∧ (i + m = i0) ∧ (Ext H11 H) ∧ (Ext H2 H) ∧ (Ext H5 H)) (i0) ⟨_, H11, 0, rfl, tV, tV, tV, tV, tV, tV, tV, W11, E11, A4, A7, (by omega), (Ext.refl W11), ((Ext.put W2 (((Ext.put W2 X3 (by omega) K4 n4 W4).trans X5).trans X6) (by omega) K7 n7 W7).trans X11), ((Ext.put W5 X6 (by omega) K7 n7 W7).trans X11)⟩ ?_
      intro m s hi
      obtain ⟨e, H17, i, rfl, vt1, vt4, vt5, vt7, vt8, vt9, vt10, W17, E17, A4, A7, him, hEH, hEp1, hEp2⟩ := hi
      have vA := And.intro vt1 (And.intro vt4 (And.intro vt5 (And.intro vt7 (And.intro vt8 (And.intro vt9 vt10)))))
      have l17_0 := W17.lt A4
      have l17_1 := W17.lt A7
      refine w_seq ?_
      refine w_seq ?_
      refine w_region ?_
      have hib : i < (parseF tx src 65536).1.length := by omega
      have hilb : i < (hts (parseF tx src 65536).1 (parseF tx src 65536).1.length).length := by rw [hhl]; exact hib
      have hrd := int_at hrH hhl hilb
      refine o_mv ?_
      refine o_mv ?_
      refine o_rd (r_indexAddr Try.underlying39 Ty.csz3 tE tE hib) rfl rfl ?_
      refine o_rd (r_load1 Ty.agg3 tE (Ext.read (H := H11) (hEH.trans (Ext.refl W17)) hrd)) rfl rfl ?_
      refine o_mv ?_
      refine o_rd (r_le (a := ((hts (parseF tx src 65536).1 (parseF tx src 65536).1.length)[i]'hilb)) (b := nest) tE tE) rfl rfl ?_
      refine o_nil ?_
      refine w_cond tE (fun hB18 => ?_) (fun hB18 => ?_)
      ·have hc18 := dec_t hB18
       refine w_skip ?_
       refine w_block ?_
       refine w_region ?_
       refine o_mv ?_
       refine o_rd (r_addE (a := ((i : Nat) : Int)) (b := 1) (c := ((i + 1 : Nat) : Int)) tE tE (by omega) (by omega) (by omega)) rfl rfl ?_
       refine o_as ?_
       refine o_nil ?_
       have hlt : i < i0 := by
        rcases Nat.lt_trichotomy i i0 with h | h | h
        ·exact h
        ·exfalso; subst h; rw [List.getElem?_eq_getElem hilb] at hy0; injection hy0 with hy0; omega
        ·omega
       exact ⟨m - 1, (by omega), _, H17, i + 1, rfl, tV, tV, tV, tV, tV, tV, tV, W17, E17, A4, A7, (by omega), hEH, hEp1, hEp2⟩
      ·have hc18 := dec_f hB18
       first | refine w_exit (blk_exit ?_) | refine w_exit (show (0 = 0 → _) ∧ (0 ≠ 0 → _) from ⟨fun _ => ?_, fun c => absurd rfl c⟩)
       refine w_seq ?_
       refine w_draw (ms := [0, 1, 3, 7, 15, 15, 15, 111, 239, 495, 1007, 2047, 4095, 8191]) (ord := [0, 1, 2, 3, 4, 5, 6, 7, 8, 9, 10, 11, 12, 13]) (by kernel_rfl) (by kernel_rfl) (by kernel_rfl) ?_
       refine d_rd rfl (r_move tE) rfl rfl ?_
       refine d_rd rfl (r_len (n := (parseF tx src nest).1.length) Try.underlying31 tE (hNS5.lenOf)) rfl rfl ?_
       refine d_rd rfl (r_eq (a := (((parseF tx src nest).1.length : Nat) : Int)) (b := 0) tE tE) rfl rfl ?_
       refine d_rd rfl (r_move tE) rfl rfl ?_
       cases hg19 : (decide ((((parseF tx src nest).1.length : Nat) : Int) = 0) : Bool)
       ·have hg19 := dec_f hg19
        refine d_sk rfl rfl ((wanted_of (b := false) rfl rfl rfl tV).trans rfl) ?_
        refine d_sk rfl rfl ((wanted_of (b := false) rfl rfl rfl tV).trans rfl) ?_
        refine d_sk rfl rfl ((wanted_of (b := false) rfl rfl rfl tV).trans rfl) ?_
        refine d_sk rfl rfl ((wanted_of (b := false) rfl rfl rfl tV).trans rfl) ?_
        refine d_sk rfl rfl ((wanted_of (b := false) rfl rfl rfl tV).trans rfl) ?_
        refine d_sk rfl rfl ((wanted_of (b := false) rfl rfl rfl tV).trans rfl) ?_
        refine d_sk rfl rfl ((wanted_of (b := false) rfl rfl rfl tV).trans rfl) ?_
        refine d_sk rfl rfl ((wanted_of (b := false) rfl rfl rfl tV).trans rfl) ?_
        refine d_rd rfl (r_pick (t := false) tE (fun h => by cases h) (fun _ => tE)) rfl rfl ?_
        refine d_rd rfl (r_assign tE) rfl rfl ?_
        refine d_nil ?_
        refine w_ret ⟨.inr rfl, rfl, .bool (false), (show resultA Try.prog [.tmp 4] _ = _ by simp only [resultA, resultsA, envOf, val_set, ↓reduceIte, Nat.reduceEqDiff, Option.map_some, vt1, vt4, vt5, vt7, vt8, vt9, vt10] <;> rfl), ?_⟩
        try dsimp only
        exfalso; rw [hq] at hg19; simp at hg19
       ·have hg19 := dec_t hg19
        refine d_rd rfl (r_loadN (cs := [.int .i64 ((parseF tx src nest).2.1), .int .i64 ((parseF tx src nest).2.2)]) Ty.agg34 Ty.csz34 tE (read_mt A7 (Nat.le_of_ble_eq_true rfl))) rfl ((wanted_of (b := true) rfl rfl rfl tV).trans rfl) ?_
        refine d_rd rfl (r_move tE) rfl ((wanted_of (b := true) rfl rfl rfl tV).trans rfl) ?_
        refine d_rd rfl (r_move tE) rfl ((wanted_of (b := true) rfl rfl rfl tV).trans rfl) ?_
        have hii : i = i0 := by
         by_cases c : i < i0
         ·have := hbe i _ c (List.getElem?_eq_getElem hilb); omega
         ·omega
        obtain ⟨loc1, off1, cap1, sk1, hnv1, hr1, _⟩ := hNS2.get hib
        subst hnv1
        have hE1 := hEp1
        refine d_rd rfl (r_indexAddr Try.underlying31 Ty.csz51 tE tE hib) rfl ((wanted_of (b := true) rfl rfl rfl tV).trans rfl) ?_
        refine d_rd rfl (r_fieldAddr Ty.fo51_1 tE) rfl ((wanted_of (b := true) rfl rfl rfl tV).trans rfl) ?_
        refine d_rd rfl (r_load1 Ty.agg3 tE ((read_part (hE1.read hr1) (o := 1) (m := 1) (by decide)).trans rfl)) rfl ((wanted_of (b := true) rfl rfl rfl tV).trans rfl) ?_
        refine d_rd rfl (r_build (cs := [.int .i64 (((parseF tx src 65536).1[i]'hib).at_), .int .i64 (31)]) Ty.zero34 Ty.pl34 tP rfl) rfl ((wanted_of (b := true) rfl rfl rfl tV).trans rfl) ?_
        refine d_rd rfl (r_eq34 tE tE) rfl ((wanted_of (b := true) rfl rfl rfl tV).trans rfl) ?_
        refine d_rd rfl (r_pick (t := true) tE (fun _ => tE) (fun h => by cases h)) rfl rfl ?_
        refine d_rd rfl (r_assign tE) rfl rfl ?_
        refine d_nil ?_
        refine w_ret ⟨.inr rfl, rfl, .bool ((decide ((parseF tx src nest).2.1 = ((parseF tx src 65536).1[i]'hib).at_) && decide ((parseF tx src nest).2.2 = 31))), (show resultA Try.prog [.tmp 4] _ = _ by simp only [resultA, resultsA, envOf, val_set, ↓reduceIte, Nat.reduceEqDiff, Option.map_some, vt1, vt4, vt5, vt7, vt8, vt9, vt10] <;> rfl), ?_⟩
        try dsimp only
        refine ⟨congrArg AV.bool ?_, E17⟩; subst hii; rw [List.getElem?_eq_getElem hib] at hv0; injection hv0 with hv0; rw [hq, hv0]; simp
   ·have hg12 := dec_t hg12
    refine o_sk rfl ((wanted_of (b := true) rfl rfl rfl tV).trans rfl) ?_
    refine o_sk rfl ((wanted_of (b := true) rfl rfl rfl tV).trans rfl) ?_
    refine o_sk rfl ((wanted_of (b := true) rfl rfl rfl tV).trans rfl) ?_
    refine o_rd (r_pick (t := true) tE (fun _ => tE) (fun h => by cases h)) rfl rfl ?_
    refine o_nil ?_
    refine w_cond (t := true) tE (fun _ => ?_) (fun h => by cases h)
    refine w_seq ?_
    refine w_region ?_
    refine o_as ?_
    refine o_nil ?_
    refine w_ret ⟨.inr rfl, rfl, .bool (false), (show resultA Try.prog [.tmp 4] _ = _ by simp only [resultA, resultsA, envOf, val_set, ↓reduceIte, Nat.reduceEqDiff, Option.map_some] <;> rfl), ?_⟩
    try dsimp only
    refine ⟨congrArg AV.bool ?_, E11⟩; first | rfl | (exfalso; omega) | (have := hK.deep (by omega); exact decide_eq_true (by omega)) | (obtain ⟨q1, q2⟩ := hK.bad (by omega) (by omega); rw [q1, q2]; simp) | (have hlast : (hts (parseF tx src 65536).1 (parseF tx src 65536).1.length)[(parseF tx src 65536).1.length - 1]? = some ((hts (parseF tx src 65536).1 (parseF tx src 65536).1.length)[(parseF tx src 65536).1.length - 1]'hil2) := List.getElem?_eq_getElem hil2; have hq := hK.low (by omega) _ hlast (by omega); rw [hq]; exact nodesB_t.2 (nodesP_eq.2 rfl)) | (exfalso; have hlast : (hts (parseF tx src 65536).1 (parseF tx src 65536).1.length)[(parseF tx src 65536).1.length - 1]? = some ((hts (parseF tx src 65536).1 (parseF tx src 65536).1.length)[(parseF tx src 65536).1.length - 1]'hil2) := List.getElem?_eq_getElem hil2; have hq := hK.low (by omega) _ hlast (by omega); rw [hq] at hg12; simp at hg12)
end Go.Proofs.Ytehmhhlhlipbnaa.Vs
