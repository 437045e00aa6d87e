/-
  What Bin and Unary make, by the code and by the reference.
-/
import Derived.Test.YtenfjdkeikjhlaaSum1
import Derived.Test.YtenfjdkeikjhlaaVjV
set_option autoImplicit false
set_option linter.unusedVariables false
set_option linter.unusedSimpArgs false
namespace Go.Proofs.Ytenfjdkeikjhlaa.Vs
open Go.VI Go.Proofs
variable {orc : CallF}
set_option maxRecDepth 100000 in
set_option maxHeartbeats 4000000 in
theorem bin_fin (ho : NoOrcBut [9] orc) {H0 : AH} (W0 : Wf H0) (op ak an bk bn : Int) (sa sb : AV) : Fin Try.prog orc 23 [.int .i64 (op), .agg [.int .i64 (ak), .int .i64 (an), sa], .agg [.int .i64 (bk), .int .i64 (bn), sb]] H0 (fun r H' => r = outS (binS op ak an bk bn) ∧ Ext H0 H') := by
  have E0 := Ext.refl W0
  refine fin_of Try.func23 rfl (by rw [Try.ntmps23]; simp) (ho _ rfl _ _) ?_
  rw [Try.ntmps23]
  refine w_seq ?_
  refine w_region ?_
  refine o_nw W0 (a_box (by simp only [ev, envOf, val_set, ofValue, ofCell, ↓reduceIte, Nat.reduceEqDiff] <;> rfl)) rfl rfl rfl (by simp) ?_; intro H1 n1 W1 X1 A1
  have A1 : H1.at H0.n = some (.row [.int .i64 (ak), .int .i64 (an), sa] 24 false none) := A1
  have E1 := E0.trans X1
  refine o_nw W1 (a_box (by simp only [ev, envOf, val_set, ofValue, ofCell, ↓reduceIte, Nat.reduceEqDiff] <;> rfl)) rfl rfl rfl (by simp) ?_; intro H2 n2 W2 X2 A2
  have A2 : H2.at H1.n = some (.row [.int .i64 (bk), .int .i64 (bn), sb] 24 false none) := A2
  have E2 := E1.trans X2
  have A1 := X2.keep _ _ A1
  refine o_nw W2 (a_alloc Ty.zero24) rfl rfl rfl (by simp) ?_; intro H3 n3 W3 X3 A3
  have A3 : H3.at H2.n = some (.row [.int .i64 (0), .int .i64 (0), .nils] 24 false none) := A3
  have E3 := E2.trans X3
  have A1 := X3.keep _ _ A1
  have A2 := X3.keep _ _ A2
  refine o_rd (r_assign (by simp only [ev, envOf, val_set, ofValue, ofCell, ↓reduceIte, Nat.reduceEqDiff] <;> rfl)) rfl rfl ?_
  refine o_nil ?_
  refine w_seq ?_
  refine w_region ?_
  refine o_rd (r_fieldAddr Ty.fo24_0 (by simp only [ev, envOf, val_set, ofValue, ofCell, ↓reduceIte, Nat.reduceEqDiff] <;> rfl)) rfl rfl ?_
  refine o_rd (r_load1 (v := .int .i64 (ak)) Ty.agg3 (by simp only [ev, envOf, val_set, ofValue, ofCell, ↓reduceIte, Nat.reduceEqDiff] <;> rfl) (read_mt A1 (Nat.le_of_ble_eq_true rfl))) rfl rfl ?_
  refine o_rd (r_eq (a := ak) (b := 1) (by simp only [ev, envOf, val_set, ofValue, ofCell, ↓reduceIte, Nat.reduceEqDiff] <;> rfl) (by simp only [ev, envOf, val_set, ofValue, ofCell, ↓reduceIte, Nat.reduceEqDiff] <;> rfl)) rfl rfl ?_
  refine o_rd (r_move (by simp only [ev, envOf, val_set, ofValue, ofCell, ↓reduceIte, Nat.reduceEqDiff] <;> rfl)) rfl rfl ?_
  cases hg4 : (decide (ak = 1) : Bool)
  · have hg4 := dec_f hg4
    refine o_rd (r_fieldAddr Ty.fo24_0 (by simp only [ev, envOf, val_set, ofValue, ofCell, ↓reduceIte, Nat.reduceEqDiff] <;> rfl)) rfl ((wanted_of (b := false) rfl rfl rfl (by simp only [val_set, ↓reduceIte, Nat.reduceEqDiff] <;> rfl)).trans rfl) ?_
    refine o_rd (r_load1 (v := .int .i64 (ak)) Ty.agg3 (by simp only [ev, envOf, val_set, ofValue, ofCell, ↓reduceIte, Nat.reduceEqDiff] <;> rfl) (read_mt A1 (Nat.le_of_ble_eq_true rfl))) rfl ((wanted_of (b := false) rfl rfl rfl (by simp only [val_set, ↓reduceIte, Nat.reduceEqDiff] <;> rfl)).trans rfl) ?_
    refine o_rd (r_eq (a := ak) (b := 2) (by simp only [ev, envOf, val_set, ofValue, ofCell, ↓reduceIte, Nat.reduceEqDiff] <;> rfl) (by simp only [ev, envOf, val_set, ofValue, ofCell, ↓reduceIte, Nat.reduceEqDiff] <;> rfl)) rfl ((wanted_of (b := false) rfl rfl rfl (by simp only [val_set, ↓reduceIte, Nat.reduceEqDiff] <;> rfl)).trans rfl) ?_
    refine o_rd (r_pick (t := false) (by simp only [ev, envOf, val_set, ofValue, ofCell, ↓reduceIte, Nat.reduceEqDiff] <;> rfl) (fun h => by cases h) (fun _ => (by simp only [ev, envOf, val_set, ofValue, ofCell, ↓reduceIte, Nat.reduceEqDiff] <;> rfl))) rfl rfl ?_
    refine o_rd (r_move (by simp only [ev, envOf, val_set, ofValue, ofCell, ↓reduceIte, Nat.reduceEqDiff] <;> rfl)) rfl rfl ?_
    cases hg5 : (decide (ak = 2) : Bool)
    · have hg5 := dec_f hg5
      refine o_rd (r_fieldAddr Ty.fo24_0 (by simp only [ev, envOf, val_set, ofValue, ofCell, ↓reduceIte, Nat.reduceEqDiff] <;> rfl)) rfl ((wanted_of (b := false) rfl rfl rfl (by simp only [val_set, ↓reduceIte, Nat.reduceEqDiff] <;> rfl)).trans rfl) ?_
      refine o_rd (r_load1 (v := .int .i64 (ak)) Ty.agg3 (by simp only [ev, envOf, val_set, ofValue, ofCell, ↓reduceIte, Nat.reduceEqDiff] <;> rfl) (read_mt A1 (Nat.le_of_ble_eq_true rfl))) rfl ((wanted_of (b := false) rfl rfl rfl (by simp only [val_set, ↓reduceIte, Nat.reduceEqDiff] <;> rfl)).trans rfl) ?_
      refine o_rd (r_eq (a := ak) (b := 5) (by simp only [ev, envOf, val_set, ofValue, ofCell, ↓reduceIte, Nat.reduceEqDiff] <;> rfl) (by simp only [ev, envOf, val_set, ofValue, ofCell, ↓reduceIte, Nat.reduceEqDiff] <;> rfl)) rfl ((wanted_of (b := false) rfl rfl rfl (by simp only [val_set, ↓reduceIte, Nat.reduceEqDiff] <;> rfl)).trans rfl) ?_
      refine o_rd (r_pick (t := false) (by simp only [ev, envOf, val_set, ofValue, ofCell, ↓reduceIte, Nat.reduceEqDiff] <;> rfl) (fun h => by cases h) (fun _ => (by simp only [ev, envOf, val_set, ofValue, ofCell, ↓reduceIte, Nat.reduceEqDiff] <;> rfl))) rfl rfl ?_
      refine o_rd (r_assign (by simp only [ev, envOf, val_set, ofValue, ofCell, ↓reduceIte, Nat.reduceEqDiff] <;> rfl)) rfl rfl ?_
      refine o_nil ?_
      refine w_seq ?_
      refine w_block ?_
      refine w_seq ?_
      refine w_region ?_
      refine o_rd (r_fieldAddr Ty.fo24_0 (by simp only [ev, envOf, val_set, ofValue, ofCell, ↓reduceIte, Nat.reduceEqDiff] <;> rfl)) rfl rfl ?_
      refine o_rd (r_load1 (v := .int .i64 (ak)) Ty.agg3 (by simp only [ev, envOf, val_set, ofValue, ofCell, ↓reduceIte, Nat.reduceEqDiff] <;> rfl) (read_mt A1 (Nat.le_of_ble_eq_true rfl))) rfl rfl ?_
      refine o_rd (r_fieldAddr Ty.fo24_0 (by simp only [ev, envOf, val_set, ofValue, ofCell, ↓reduceIte, Nat.reduceEqDiff] <;> rfl)) rfl rfl ?_
      refine o_rd (r_load1 (v := .int .i64 (bk)) Ty.agg3 (by simp only [ev, envOf, val_set, ofValue, ofCell, ↓reduceIte, Nat.reduceEqDiff] <;> rfl) (read_mt A2 (Nat.le_of_ble_eq_true rfl))) rfl rfl ?_
      refine o_rd (r_ne (a := ak) (b := bk) (by simp only [ev, envOf, val_set, ofValue, ofCell, ↓reduceIte, Nat.reduceEqDiff] <;> rfl) (by simp only [ev, envOf, val_set, ofValue, ofCell, ↓reduceIte, Nat.reduceEqDiff] <;> rfl)) rfl rfl ?_
      refine o_rd (r_assign (by simp only [ev, envOf, val_set, ofValue, ofCell, ↓reduceIte, Nat.reduceEqDiff] <;> rfl)) rfl rfl ?_
      refine o_nil ?_
      refine w_cond (by simp only [ev, envOf, val_set, ofValue, ofCell, ↓reduceIte, Nat.reduceEqDiff] <;> rfl) (fun hc6 => ?_) (fun hc6 => ?_)
      · have hc6 := dec_t hc6
        refine w_seq ?_
        refine w_region ?_
        refine o_rd (r_build (cs := [.int .i64 (0), .int .i64 (0), .nils]) Ty.zero24 Ty.pl24 (by simp only [evParts, ev, envOf, val_set, ofValue, ofCell, ↓reduceIte, Nat.reduceEqDiff] <;> rfl) rfl) rfl rfl ?_
        refine o_st W3 (by simp only [ev, envOf, val_set, ofValue, ofCell, ↓reduceIte, Nat.reduceEqDiff] <;> rfl) (by simp only [ev, envOf, val_set, ofValue, ofCell, ↓reduceIte, Nat.reduceEqDiff] <;> rfl) A3 Ty.csz24 rfl (Nat.le_of_ble_eq_true rfl) (by rfl) rfl rfl ?_; intro H7 n7 W7 A7 K7
        have A7 : H7.at H2.n = some (.row [.int .i64 (0), .int .i64 (0), .nils] 24 false none) := A7
        have E7 := Ext.put W0 E3 (by have := E3.n; omega) K7 n7 W7
        have A1 := K7.own A1 (by omega)
        have A2 := K7.own A2 (by omega)
        refine o_rd (r_assign (by simp only [ev, envOf, val_set, ofValue, ofCell, ↓reduceIte, Nat.reduceEqDiff] <;> rfl)) rfl rfl ?_
        refine o_nil ?_
        have hr8 : H7.read (.mt H2.n) 0 3 = some [.int .i64 (0), .int .i64 (0), .nils] := read_mt A7 (Nat.le_of_ble_eq_true rfl)
        refine w_ret ⟨.inr rfl, rfl, .tup [.agg [.int .i64 (0), .int .i64 (0), .nils], .int .i64 (5)], (show resultA Try.prog [.cell 6 24, .tmp 7] _ = _ by simp only [resultA, resultsA, envOf, val_set, ↓reduceIte, Nat.reduceEqDiff, Option.map_some, hr8, Ty.agg24, Ty.csz24] <;> rfl), ?_⟩
        refine ⟨?_, E7⟩; (try subst hc6); first | (simp [binS, outS, sumsS, hg4, hg5, hc6]; done) | (simp [binS, outS, hg4, hg5, hc6]; done) | (subst_vars; simp [binS, outS, sumsS, hg4, hg5, hc6]; done) | (exfalso; omega)
      · have hc6 := dec_fn hc6
        refine w_seq ?_
        refine w_region ?_
        refine o_rd (r_move (by simp only [ev, envOf, val_set, ofValue, ofCell, ↓reduceIte, Nat.reduceEqDiff] <;> rfl)) rfl rfl ?_
        refine o_rd (r_move (by simp only [ev, envOf, val_set, ofValue, ofCell, ↓reduceIte, Nat.reduceEqDiff] <;> rfl)) rfl rfl ?_
        cases hg9 : (decide (ak = 5) : Bool)
        · have hg9 := dec_f hg9
          refine o_sk rfl ((wanted_of (b := false) rfl rfl rfl (by simp only [val_set, ↓reduceIte, Nat.reduceEqDiff] <;> rfl)).trans rfl) ?_
          refine o_sk rfl ((wanted_of (b := false) rfl rfl rfl (by simp only [val_set, ↓reduceIte, Nat.reduceEqDiff] <;> rfl)).trans rfl) ?_
          refine o_rd (r_pick (t := false) (by simp only [ev, envOf, val_set, ofValue, ofCell, ↓reduceIte, Nat.reduceEqDiff] <;> rfl) (fun h => by cases h) (fun _ => (by simp only [ev, envOf, val_set, ofValue, ofCell, ↓reduceIte, Nat.reduceEqDiff] <;> rfl))) rfl rfl ?_
          refine o_rd (r_assign (by simp only [ev, envOf, val_set, ofValue, ofCell, ↓reduceIte, Nat.reduceEqDiff] <;> rfl)) rfl rfl ?_
          refine o_nil ?_
          refine w_cond (t := false) (by simp only [ev, envOf, val_set, ofValue, ofCell, ↓reduceIte, Nat.reduceEqDiff] <;> rfl) (fun h => by cases h) (fun _ => ?_)
          refine w_seq ?_
          refine w_region ?_
          refine o_rd (r_move (by simp only [ev, envOf, val_set, ofValue, ofCell, ↓reduceIte, Nat.reduceEqDiff] <;> rfl)) rfl rfl ?_
          refine o_rd (r_move (by simp only [ev, envOf, val_set, ofValue, ofCell, ↓reduceIte, Nat.reduceEqDiff] <;> rfl)) rfl rfl ?_
          refine o_sk rfl ((wanted_of (b := false) rfl rfl rfl (by simp only [val_set, ↓reduceIte, Nat.reduceEqDiff] <;> rfl)).trans rfl) ?_
          refine o_sk rfl ((wanted_of (b := false) rfl rfl rfl (by simp only [val_set, ↓reduceIte, Nat.reduceEqDiff] <;> rfl)).trans rfl) ?_
          refine o_rd (r_pick (t := false) (by simp only [ev, envOf, val_set, ofValue, ofCell, ↓reduceIte, Nat.reduceEqDiff] <;> rfl) (fun h => by cases h) (fun _ => (by simp only [ev, envOf, val_set, ofValue, ofCell, ↓reduceIte, Nat.reduceEqDiff] <;> rfl))) rfl rfl ?_
          refine o_rd (r_assign (by simp only [ev, envOf, val_set, ofValue, ofCell, ↓reduceIte, Nat.reduceEqDiff] <;> rfl)) rfl rfl ?_
          refine o_nil ?_
          refine w_cond (t := false) (by simp only [ev, envOf, val_set, ofValue, ofCell, ↓reduceIte, Nat.reduceEqDiff] <;> rfl) (fun h => by cases h) (fun _ => ?_)
          refine w_seq ?_
          refine w_region ?_
          refine o_rd (r_fieldAddr Ty.fo24_0 (by simp only [ev, envOf, val_set, ofValue, ofCell, ↓reduceIte, Nat.reduceEqDiff] <;> rfl)) rfl rfl ?_
          refine o_rd (r_load1 (v := .int .i64 (ak)) Ty.agg3 (by simp only [ev, envOf, val_set, ofValue, ofCell, ↓reduceIte, Nat.reduceEqDiff] <;> rfl) (read_mt A1 (Nat.le_of_ble_eq_true rfl))) rfl rfl ?_
          refine o_rd (r_eq (a := ak) (b := 1) (by simp only [ev, envOf, val_set, ofValue, ofCell, ↓reduceIte, Nat.reduceEqDiff] <;> rfl) (by simp only [ev, envOf, val_set, ofValue, ofCell, ↓reduceIte, Nat.reduceEqDiff] <;> rfl)) rfl rfl ?_
          refine o_rd (r_assign (by simp only [ev, envOf, val_set, ofValue, ofCell, ↓reduceIte, Nat.reduceEqDiff] <;> rfl)) rfl rfl ?_
          refine o_nil ?_
          refine w_cond (by simp only [ev, envOf, val_set, ofValue, ofCell, ↓reduceIte, Nat.reduceEqDiff] <;> rfl) (fun hc10 => ?_) (fun hc10 => ?_)
          · have hc10 := dec_t hc10
            refine w_seq ?_
            refine w_region ?_
            refine o_rd (r_move (by simp only [ev, envOf, val_set, ofValue, ofCell, ↓reduceIte, Nat.reduceEqDiff] <;> rfl)) rfl rfl ?_
            refine o_rd (r_fieldAddr Ty.fo24_1 (by simp only [ev, envOf, val_set, ofValue, ofCell, ↓reduceIte, Nat.reduceEqDiff] <;> rfl)) rfl rfl ?_
            refine o_rd (r_load1 (v := .int .i64 (an)) Ty.agg3 (by simp only [ev, envOf, val_set, ofValue, ofCell, ↓reduceIte, Nat.reduceEqDiff] <;> rfl) (read_mt A1 (Nat.le_of_ble_eq_true rfl))) rfl rfl ?_
            refine o_rd (r_fieldAddr Ty.fo24_1 (by simp only [ev, envOf, val_set, ofValue, ofCell, ↓reduceIte, Nat.reduceEqDiff] <;> rfl)) rfl rfl ?_
            refine o_rd (r_load1 (v := .int .i64 (bn)) Ty.agg3 (by simp only [ev, envOf, val_set, ofValue, ofCell, ↓reduceIte, Nat.reduceEqDiff] <;> rfl) (read_mt A2 (Nat.le_of_ble_eq_true rfl))) rfl rfl ?_
            refine o_cl rfl rfl (by simp only [evs, ev, envOf, val_set, ofValue, ofCell, ↓reduceIte, Nat.reduceEqDiff] <;> rfl) rfl (sums_fin ho W3 (op) (an) (bn)) rfl rfl ?_; rintro _ H11 ⟨rfl, X11⟩
            have W11 := X11.wf; have E11 := E3.trans X11
            have A1 := X11.keep _ _ A1
            have A2 := X11.keep _ _ A2
            have A3 := X11.keep _ _ A3
            have n11 := X11.n
            refine o_rd (r_extract (by simp only [ev, envOf, val_set, ofValue, ofCell, ↓reduceIte, Nat.reduceEqDiff] <;> rfl) rfl) rfl rfl ?_
            refine o_rd (r_extract (by simp only [ev, envOf, val_set, ofValue, ofCell, ↓reduceIte, Nat.reduceEqDiff] <;> rfl) rfl) rfl rfl ?_
            refine o_st W11 (by simp only [ev, envOf, val_set, ofValue, ofCell, ↓reduceIte, Nat.reduceEqDiff] <;> rfl) (by simp only [ev, envOf, val_set, ofValue, ofCell, ↓reduceIte, Nat.reduceEqDiff] <;> rfl) A3 Ty.csz24 rfl (Nat.le_of_ble_eq_true rfl) (by rfl) rfl rfl ?_; intro H12 n12 W12 A12 K12
            have A12 : H12.at H2.n = some (.row [.int .i64 ((sumsS (op) (an) (bn)).1), .int .i64 ((sumsS (op) (an) (bn)).2.1), .nils] 24 false none) := A12
            have E12 := Ext.put W0 E11 (by have := E11.n; omega) K12 n12 W12
            have A1 := K12.own A1 (by omega)
            have A2 := K12.own A2 (by omega)
            refine o_rd (r_assign (by simp only [ev, envOf, val_set, ofValue, ofCell, ↓reduceIte, Nat.reduceEqDiff] <;> rfl)) rfl rfl ?_
            refine o_nil ?_
            have hr13 : H12.read (.mt H2.n) 0 3 = some [.int .i64 ((sumsS (op) (an) (bn)).1), .int .i64 ((sumsS (op) (an) (bn)).2.1), .nils] := read_mt A12 (Nat.le_of_ble_eq_true rfl)
            refine w_ret ⟨.inr rfl, rfl, .tup [.agg [.int .i64 ((sumsS (op) (an) (bn)).1), .int .i64 ((sumsS (op) (an) (bn)).2.1), .nils], .int .i64 ((sumsS (op) (an) (bn)).2.2)], (show resultA Try.prog [.cell 6 24, .tmp 7] _ = _ by simp only [resultA, resultsA, envOf, val_set, ↓reduceIte, Nat.reduceEqDiff, Option.map_some, hr13, Ty.agg24, Ty.csz24] <;> rfl), ?_⟩
            refine ⟨?_, E12⟩; (try subst hc6); first | (simp [binS, outS, sumsS, hg4, hg5, hc6, hg9, hc10]; done) | (simp [binS, outS, hg4, hg5, hc6, hg9, hc10]; done) | (subst_vars; simp [binS, outS, sumsS, hg4, hg5, hc6, hg9, hc10]; done) | (exfalso; omega)
          · have hc10 := dec_f hc10
            refine w_skip ?_
            refine w_seq ?_
            refine w_region ?_
            refine o_rd (r_build (cs := [.int .i64 (0), .int .i64 (0), .nils]) Ty.zero24 Ty.pl24 (by simp only [evParts, ev, envOf, val_set, ofValue, ofCell, ↓reduceIte, Nat.reduceEqDiff] <;> rfl) rfl) rfl rfl ?_
            refine o_st W3 (by simp only [ev, envOf, val_set, ofValue, ofCell, ↓reduceIte, Nat.reduceEqDiff] <;> rfl) (by simp only [ev, envOf, val_set, ofValue, ofCell, ↓reduceIte, Nat.reduceEqDiff] <;> rfl) A3 Ty.csz24 rfl (Nat.le_of_ble_eq_true rfl) (by rfl) rfl rfl ?_; intro H14 n14 W14 A14 K14
            have A14 : H14.at H2.n = some (.row [.int .i64 (0), .int .i64 (0), .nils] 24 false none) := A14
            have E14 := Ext.put W0 E3 (by have := E3.n; omega) K14 n14 W14
            have A1 := K14.own A1 (by omega)
            have A2 := K14.own A2 (by omega)
            refine o_rd (r_assign (by simp only [ev, envOf, val_set, ofValue, ofCell, ↓reduceIte, Nat.reduceEqDiff] <;> rfl)) rfl rfl ?_
            refine o_nil ?_
            have hr15 : H14.read (.mt H2.n) 0 3 = some [.int .i64 (0), .int .i64 (0), .nils] := read_mt A14 (Nat.le_of_ble_eq_true rfl)
            refine w_ret ⟨.inr rfl, rfl, .tup [.agg [.int .i64 (0), .int .i64 (0), .nils], .int .i64 (5)], (show resultA Try.prog [.cell 6 24, .tmp 7] _ = _ by simp only [resultA, resultsA, envOf, val_set, ↓reduceIte, Nat.reduceEqDiff, Option.map_some, hr15, Ty.agg24, Ty.csz24] <;> rfl), ?_⟩
            refine ⟨?_, E14⟩; (try subst hc6); first | (simp [binS, outS, sumsS, hg4, hg5, hc6, hg9, hc10]; done) | (simp [binS, outS, hg4, hg5, hc6, hg9, hc10]; done) | (subst_vars; simp [binS, outS, sumsS, hg4, hg5, hc6, hg9, hc10]; done) | (exfalso; omega)
        · have hg9 := dec_t hg9
          refine o_rd (r_move (by simp only [ev, envOf, val_set, ofValue, ofCell, ↓reduceIte, Nat.reduceEqDiff] <;> rfl)) rfl ((wanted_of (b := true) rfl rfl rfl (by simp only [val_set, ↓reduceIte, Nat.reduceEqDiff] <;> rfl)).trans rfl) ?_
          refine o_rd (r_eq (a := op) (b := 21) (by simp only [ev, envOf, val_set, ofValue, ofCell, ↓reduceIte, Nat.reduceEqDiff] <;> rfl) (by simp only [ev, envOf, val_set, ofValue, ofCell, ↓reduceIte, Nat.reduceEqDiff] <;> rfl)) rfl ((wanted_of (b := true) rfl rfl rfl (by simp only [val_set, ↓reduceIte, Nat.reduceEqDiff] <;> rfl)).trans rfl) ?_
          refine o_rd (r_pick (t := true) (by simp only [ev, envOf, val_set, ofValue, ofCell, ↓reduceIte, Nat.reduceEqDiff] <;> rfl) (fun _ => (by simp only [ev, envOf, val_set, ofValue, ofCell, ↓reduceIte, Nat.reduceEqDiff] <;> rfl)) (fun h => by cases h)) rfl rfl ?_
          refine o_rd (r_assign (by simp only [ev, envOf, val_set, ofValue, ofCell, ↓reduceIte, Nat.reduceEqDiff] <;> rfl)) rfl rfl ?_
          refine o_nil ?_
          refine w_cond (by simp only [ev, envOf, val_set, ofValue, ofCell, ↓reduceIte, Nat.reduceEqDiff] <;> rfl) (fun hc16 => ?_) (fun hc16 => ?_)
          · have hc16 := dec_t hc16
            refine w_seq ?_
            refine w_region ?_
            refine o_rd (r_fieldAddr Ty.fo24_1 (by simp only [ev, envOf, val_set, ofValue, ofCell, ↓reduceIte, Nat.reduceEqDiff] <;> rfl)) rfl rfl ?_
            refine o_rd (r_load1 (v := .int .i64 (an)) Ty.agg3 (by simp only [ev, envOf, val_set, ofValue, ofCell, ↓reduceIte, Nat.reduceEqDiff] <;> rfl) (read_mt A1 (Nat.le_of_ble_eq_true rfl))) rfl rfl ?_
            refine o_rd (r_fieldAddr Ty.fo24_1 (by simp only [ev, envOf, val_set, ofValue, ofCell, ↓reduceIte, Nat.reduceEqDiff] <;> rfl)) rfl rfl ?_
            refine o_rd (r_load1 (v := .int .i64 (bn)) Ty.agg3 (by simp only [ev, envOf, val_set, ofValue, ofCell, ↓reduceIte, Nat.reduceEqDiff] <;> rfl) (read_mt A2 (Nat.le_of_ble_eq_true rfl))) rfl rfl ?_
            refine o_rd (r_eq (a := an) (b := bn) (by simp only [ev, envOf, val_set, ofValue, ofCell, ↓reduceIte, Nat.reduceEqDiff] <;> rfl) (by simp only [ev, envOf, val_set, ofValue, ofCell, ↓reduceIte, Nat.reduceEqDiff] <;> rfl)) rfl rfl ?_
            refine o_cl rfl rfl (by simp only [evs, ev, envOf, val_set, ofValue, ofCell, ↓reduceIte, Nat.reduceEqDiff] <;> rfl) rfl (flag_fin ho W3 (decide (an = bn))) rfl rfl ?_; rintro _ H17 ⟨rfl, X17⟩
            have W17 := X17.wf; have E17 := E3.trans X17
            have A1 := X17.keep _ _ A1
            have A2 := X17.keep _ _ A2
            have A3 := X17.keep _ _ A3
            have n17 := X17.n
            refine o_st W17 (by simp only [ev, envOf, val_set, ofValue, ofCell, ↓reduceIte, Nat.reduceEqDiff] <;> rfl) (by simp only [ev, envOf, val_set, ofValue, ofCell, ↓reduceIte, Nat.reduceEqDiff] <;> rfl) A3 Ty.csz24 rfl (Nat.le_of_ble_eq_true rfl) (by rfl) rfl rfl ?_; intro H18 n18 W18 A18 K18
            have A18 : H18.at H2.n = some (.row [.int .i64 (2), .int .i64 (flagN (decide (an = bn))), .nils] 24 false none) := A18
            have E18 := Ext.put W0 E17 (by have := E17.n; omega) K18 n18 W18
            have A1 := K18.own A1 (by omega)
            have A2 := K18.own A2 (by omega)
            refine o_rd (r_assign (by simp only [ev, envOf, val_set, ofValue, ofCell, ↓reduceIte, Nat.reduceEqDiff] <;> rfl)) rfl rfl ?_
            refine o_nil ?_
            have hr19 : H18.read (.mt H2.n) 0 3 = some [.int .i64 (2), .int .i64 (flagN (decide (an = bn))), .nils] := read_mt A18 (Nat.le_of_ble_eq_true rfl)
            refine w_ret ⟨.inr rfl, rfl, .tup [.agg [.int .i64 (2), .int .i64 (flagN (decide (an = bn))), .nils], .int .i64 (0)], (show resultA Try.prog [.cell 6 24, .tmp 7] _ = _ by simp only [resultA, resultsA, envOf, val_set, ↓reduceIte, Nat.reduceEqDiff, Option.map_some, hr19, Ty.agg24, Ty.csz24] <;> rfl), ?_⟩
            refine ⟨?_, E18⟩; (try subst hc6); first | (simp [binS, outS, sumsS, hg4, hg5, hc6, hg9, hc16]; done) | (simp [binS, outS, hg4, hg5, hc6, hg9, hc16]; done) | (subst_vars; simp [binS, outS, sumsS, hg4, hg5, hc6, hg9, hc16]; done) | (exfalso; omega)
          · have hc16 := dec_f hc16
            refine w_seq ?_
            refine w_region ?_
            refine o_rd (r_move (by simp only [ev, envOf, val_set, ofValue, ofCell, ↓reduceIte, Nat.reduceEqDiff] <;> rfl)) rfl rfl ?_
            refine o_rd (r_move (by simp only [ev, envOf, val_set, ofValue, ofCell, ↓reduceIte, Nat.reduceEqDiff] <;> rfl)) rfl rfl ?_
            refine o_rd (r_move (by simp only [ev, envOf, val_set, ofValue, ofCell, ↓reduceIte, Nat.reduceEqDiff] <;> rfl)) rfl ((wanted_of (b := true) rfl rfl rfl (by simp only [val_set, ↓reduceIte, Nat.reduceEqDiff] <;> rfl)).trans rfl) ?_
            refine o_rd (r_eq (a := op) (b := 22) (by simp only [ev, envOf, val_set, ofValue, ofCell, ↓reduceIte, Nat.reduceEqDiff] <;> rfl) (by simp only [ev, envOf, val_set, ofValue, ofCell, ↓reduceIte, Nat.reduceEqDiff] <;> rfl)) rfl ((wanted_of (b := true) rfl rfl rfl (by simp only [val_set, ↓reduceIte, Nat.reduceEqDiff] <;> rfl)).trans rfl) ?_
            refine o_rd (r_pick (t := true) (by simp only [ev, envOf, val_set, ofValue, ofCell, ↓reduceIte, Nat.reduceEqDiff] <;> rfl) (fun _ => (by simp only [ev, envOf, val_set, ofValue, ofCell, ↓reduceIte, Nat.reduceEqDiff] <;> rfl)) (fun h => by cases h)) rfl rfl ?_
            refine o_rd (r_assign (by simp only [ev, envOf, val_set, ofValue, ofCell, ↓reduceIte, Nat.reduceEqDiff] <;> rfl)) rfl rfl ?_
            refine o_nil ?_
            refine w_cond (by simp only [ev, envOf, val_set, ofValue, ofCell, ↓reduceIte, Nat.reduceEqDiff] <;> rfl) (fun hc20 => ?_) (fun hc20 => ?_)
            · have hc20 := dec_t hc20
              refine w_seq ?_
              refine w_region ?_
              refine o_rd (r_fieldAddr Ty.fo24_1 (by simp only [ev, envOf, val_set, ofValue, ofCell, ↓reduceIte, Nat.reduceEqDiff] <;> rfl)) rfl rfl ?_
              refine o_rd (r_load1 (v := .int .i64 (an)) Ty.agg3 (by simp only [ev, envOf, val_set, ofValue, ofCell, ↓reduceIte, Nat.reduceEqDiff] <;> rfl) (read_mt A1 (Nat.le_of_ble_eq_true rfl))) rfl rfl ?_
              refine o_rd (r_fieldAddr Ty.fo24_1 (by simp only [ev, envOf, val_set, ofValue, ofCell, ↓reduceIte, Nat.reduceEqDiff] <;> rfl)) rfl rfl ?_
              refine o_rd (r_load1 (v := .int .i64 (bn)) Ty.agg3 (by simp only [ev, envOf, val_set, ofValue, ofCell, ↓reduceIte, Nat.reduceEqDiff] <;> rfl) (read_mt A2 (Nat.le_of_ble_eq_true rfl))) rfl rfl ?_
              refine o_rd (r_ne (a := an) (b := bn) (by simp only [ev, envOf, val_set, ofValue, ofCell, ↓reduceIte, Nat.reduceEqDiff] <;> rfl) (by simp only [ev, envOf, val_set, ofValue, ofCell, ↓reduceIte, Nat.reduceEqDiff] <;> rfl)) rfl rfl ?_
              refine o_cl rfl rfl (by simp only [evs, ev, envOf, val_set, ofValue, ofCell, ↓reduceIte, Nat.reduceEqDiff] <;> rfl) rfl (flag_fin ho W3 (decide (an ≠ bn))) rfl rfl ?_; rintro _ H21 ⟨rfl, X21⟩
              have W21 := X21.wf; have E21 := E3.trans X21
              have A1 := X21.keep _ _ A1
              have A2 := X21.keep _ _ A2
              have A3 := X21.keep _ _ A3
              have n21 := X21.n
              refine o_st W21 (by simp only [ev, envOf, val_set, ofValue, ofCell, ↓reduceIte, Nat.reduceEqDiff] <;> rfl) (by simp only [ev, envOf, val_set, ofValue, ofCell, ↓reduceIte, Nat.reduceEqDiff] <;> rfl) A3 Ty.csz24 rfl (Nat.le_of_ble_eq_true rfl) (by rfl) rfl rfl ?_; intro H22 n22 W22 A22 K22
              have A22 : H22.at H2.n = some (.row [.int .i64 (2), .int .i64 (flagN (decide (an ≠ bn))), .nils] 24 false none) := A22
              have E22 := Ext.put W0 E21 (by have := E21.n; omega) K22 n22 W22
              have A1 := K22.own A1 (by omega)
              have A2 := K22.own A2 (by omega)
              refine o_rd (r_assign (by simp only [ev, envOf, val_set, ofValue, ofCell, ↓reduceIte, Nat.reduceEqDiff] <;> rfl)) rfl rfl ?_
              refine o_nil ?_
              have hr23 : H22.read (.mt H2.n) 0 3 = some [.int .i64 (2), .int .i64 (flagN (decide (an ≠ bn))), .nils] := read_mt A22 (Nat.le_of_ble_eq_true rfl)
              refine w_ret ⟨.inr rfl, rfl, .tup [.agg [.int .i64 (2), .int .i64 (flagN (decide (an ≠ bn))), .nils], .int .i64 (0)], (show resultA Try.prog [.cell 6 24, .tmp 7] _ = _ by simp only [resultA, resultsA, envOf, val_set, ↓reduceIte, Nat.reduceEqDiff, Option.map_some, hr23, Ty.agg24, Ty.csz24] <;> rfl), ?_⟩
              refine ⟨?_, E22⟩; (try subst hc6); first | (simp [binS, outS, sumsS, hg4, hg5, hc6, hg9, hc16, hc20]; done) | (simp [binS, outS, hg4, hg5, hc6, hg9, hc16, hc20]; done) | (subst_vars; simp [binS, outS, sumsS, hg4, hg5, hc6, hg9, hc16, hc20]; done) | (exfalso; omega)
            · have hc20 := dec_f hc20
              refine w_seq ?_
              refine w_region ?_
              refine o_rd (r_fieldAddr Ty.fo24_0 (by simp only [ev, envOf, val_set, ofValue, ofCell, ↓reduceIte, Nat.reduceEqDiff] <;> rfl)) rfl rfl ?_
              refine o_rd (r_load1 (v := .int .i64 (ak)) Ty.agg3 (by simp only [ev, envOf, val_set, ofValue, ofCell, ↓reduceIte, Nat.reduceEqDiff] <;> rfl) (read_mt A1 (Nat.le_of_ble_eq_true rfl))) rfl rfl ?_
              refine o_rd (r_eq (a := ak) (b := 1) (by simp only [ev, envOf, val_set, ofValue, ofCell, ↓reduceIte, Nat.reduceEqDiff] <;> rfl) (by simp only [ev, envOf, val_set, ofValue, ofCell, ↓reduceIte, Nat.reduceEqDiff] <;> rfl)) rfl rfl ?_
              refine o_rd (r_assign (by simp only [ev, envOf, val_set, ofValue, ofCell, ↓reduceIte, Nat.reduceEqDiff] <;> rfl)) rfl rfl ?_
              refine o_nil ?_
              refine w_cond (by simp only [ev, envOf, val_set, ofValue, ofCell, ↓reduceIte, Nat.reduceEqDiff] <;> rfl) (fun hc24 => ?_) (fun hc24 => ?_)
              · have hc24 := dec_t hc24
                refine w_seq ?_
                refine w_region ?_
                refine o_rd (r_move (by simp only [ev, envOf, val_set, ofValue, ofCell, ↓reduceIte, Nat.reduceEqDiff] <;> rfl)) rfl rfl ?_
                refine o_rd (r_fieldAddr Ty.fo24_1 (by simp only [ev, envOf, val_set, ofValue, ofCell, ↓reduceIte, Nat.reduceEqDiff] <;> rfl)) rfl rfl ?_
                refine o_rd (r_load1 (v := .int .i64 (an)) Ty.agg3 (by simp only [ev, envOf, val_set, ofValue, ofCell, ↓reduceIte, Nat.reduceEqDiff] <;> rfl) (read_mt A1 (Nat.le_of_ble_eq_true rfl))) rfl rfl ?_
                refine o_rd (r_fieldAddr Ty.fo24_1 (by simp only [ev, envOf, val_set, ofValue, ofCell, ↓reduceIte, Nat.reduceEqDiff] <;> rfl)) rfl rfl ?_
                refine o_rd (r_load1 (v := .int .i64 (bn)) Ty.agg3 (by simp only [ev, envOf, val_set, ofValue, ofCell, ↓reduceIte, Nat.reduceEqDiff] <;> rfl) (read_mt A2 (Nat.le_of_ble_eq_true rfl))) rfl rfl ?_
                refine o_cl rfl rfl (by simp only [evs, ev, envOf, val_set, ofValue, ofCell, ↓reduceIte, Nat.reduceEqDiff] <;> rfl) rfl (sums_fin ho W3 (op) (an) (bn)) rfl rfl ?_; rintro _ H25 ⟨rfl, X25⟩
                have W25 := X25.wf; have E25 := E3.trans X25
                have A1 := X25.keep _ _ A1
                have A2 := X25.keep _ _ A2
                have A3 := X25.keep _ _ A3
                have n25 := X25.n
                refine o_rd (r_extract (by simp only [ev, envOf, val_set, ofValue, ofCell, ↓reduceIte, Nat.reduceEqDiff] <;> rfl) rfl) rfl rfl ?_
                refine o_rd (r_extract (by simp only [ev, envOf, val_set, ofValue, ofCell, ↓reduceIte, Nat.reduceEqDiff] <;> rfl) rfl) rfl rfl ?_
                refine o_st W25 (by simp only [ev, envOf, val_set, ofValue, ofCell, ↓reduceIte, Nat.reduceEqDiff] <;> rfl) (by simp only [ev, envOf, val_set, ofValue, ofCell, ↓reduceIte, Nat.reduceEqDiff] <;> rfl) A3 Ty.csz24 rfl (Nat.le_of_ble_eq_true rfl) (by rfl) rfl rfl ?_; intro H26 n26 W26 A26 K26
                have A26 : H26.at H2.n = some (.row [.int .i64 ((sumsS (op) (an) (bn)).1), .int .i64 ((sumsS (op) (an) (bn)).2.1), .nils] 24 false none) := A26
                have E26 := Ext.put W0 E25 (by have := E25.n; omega) K26 n26 W26
                have A1 := K26.own A1 (by omega)
                have A2 := K26.own A2 (by omega)
                refine o_rd (r_assign (by simp only [ev, envOf, val_set, ofValue, ofCell, ↓reduceIte, Nat.reduceEqDiff] <;> rfl)) rfl rfl ?_
                refine o_nil ?_
                have hr27 : H26.read (.mt H2.n) 0 3 = some [.int .i64 ((sumsS (op) (an) (bn)).1), .int .i64 ((sumsS (op) (an) (bn)).2.1), .nils] := read_mt A26 (Nat.le_of_ble_eq_true rfl)
                refine w_ret ⟨.inr rfl, rfl, .tup [.agg [.int .i64 ((sumsS (op) (an) (bn)).1), .int .i64 ((sumsS (op) (an) (bn)).2.1), .nils], .int .i64 ((sumsS (op) (an) (bn)).2.2)], (show resultA Try.prog [.cell 6 24, .tmp 7] _ = _ by simp only [resultA, resultsA, envOf, val_set, ↓reduceIte, Nat.reduceEqDiff, Option.map_some, hr27, Ty.agg24, Ty.csz24] <;> rfl), ?_⟩
                refine ⟨?_, E26⟩; (try subst hc6); first | (simp [binS, outS, sumsS, hg4, hg5, hc6, hg9, hc16, hc20, hc24]; done) | (simp [binS, outS, hg4, hg5, hc6, hg9, hc16, hc20, hc24]; done) | (subst_vars; simp [binS, outS, sumsS, hg4, hg5, hc6, hg9, hc16, hc20, hc24]; done) | (exfalso; omega)
              · have hc24 := dec_f hc24
                refine w_skip ?_
                refine w_seq ?_
                refine w_region ?_
                refine o_rd (r_build (cs := [.int .i64 (0), .int .i64 (0), .nils]) Ty.zero24 Ty.pl24 (by simp only [evParts, ev, envOf, val_set, ofValue, ofCell, ↓reduceIte, Nat.reduceEqDiff] <;> rfl) rfl) rfl rfl ?_
                refine o_st W3 (by simp only [ev, envOf, val_set, ofValue, ofCell, ↓reduceIte, Nat.reduceEqDiff] <;> rfl) (by simp only [ev, envOf, val_set, ofValue, ofCell, ↓reduceIte, Nat.reduceEqDiff] <;> rfl) A3 Ty.csz24 rfl (Nat.le_of_ble_eq_true rfl) (by rfl) rfl rfl ?_; intro H28 n28 W28 A28 K28
                have A28 : H28.at H2.n = some (.row [.int .i64 (0), .int .i64 (0), .nils] 24 false none) := A28
                have E28 := Ext.put W0 E3 (by have := E3.n; omega) K28 n28 W28
                have A1 := K28.own A1 (by omega)
                have A2 := K28.own A2 (by omega)
                refine o_rd (r_assign (by simp only [ev, envOf, val_set, ofValue, ofCell, ↓reduceIte, Nat.reduceEqDiff] <;> rfl)) rfl rfl ?_
                refine o_nil ?_
                have hr29 : H28.read (.mt H2.n) 0 3 = some [.int .i64 (0), .int .i64 (0), .nils] := read_mt A28 (Nat.le_of_ble_eq_true rfl)
                refine w_ret ⟨.inr rfl, rfl, .tup [.agg [.int .i64 (0), .int .i64 (0), .nils], .int .i64 (5)], (show resultA Try.prog [.cell 6 24, .tmp 7] _ = _ by simp only [resultA, resultsA, envOf, val_set, ↓reduceIte, Nat.reduceEqDiff, Option.map_some, hr29, Ty.agg24, Ty.csz24] <;> rfl), ?_⟩
                refine ⟨?_, E28⟩; (try subst hc6); first | (simp [binS, outS, sumsS, hg4, hg5, hc6, hg9, hc16, hc20, hc24]; done) | (simp [binS, outS, hg4, hg5, hc6, hg9, hc16, hc20, hc24]; done) | (subst_vars; simp [binS, outS, sumsS, hg4, hg5, hc6, hg9, hc16, hc20, hc24]; done) | (exfalso; omega)
    · have hg5 := dec_t hg5
      refine o_sk rfl ((wanted_of (b := true) rfl rfl rfl (by simp only [val_set, ↓reduceIte, Nat.reduceEqDiff] <;> rfl)).trans rfl) ?_
      refine o_sk rfl ((wanted_of (b := true) rfl rfl rfl (by simp only [val_set, ↓reduceIte, Nat.reduceEqDiff] <;> rfl)).trans rfl) ?_
      refine o_sk rfl ((wanted_of (b := true) rfl rfl rfl (by simp only [val_set, ↓reduceIte, Nat.reduceEqDiff] <;> rfl)).trans rfl) ?_
      refine o_rd (r_pick (t := true) (by simp only [ev, envOf, val_set, ofValue, ofCell, ↓reduceIte, Nat.reduceEqDiff] <;> rfl) (fun _ => (by simp only [ev, envOf, val_set, ofValue, ofCell, ↓reduceIte, Nat.reduceEqDiff] <;> rfl)) (fun h => by cases h)) rfl rfl ?_
      refine o_rd (r_assign (by simp only [ev, envOf, val_set, ofValue, ofCell, ↓reduceIte, Nat.reduceEqDiff] <;> rfl)) rfl rfl ?_
      refine o_nil ?_
      refine w_seq ?_
      refine w_block ?_
      refine w_seq ?_
      refine w_region ?_
      refine o_rd (r_fieldAddr Ty.fo24_0 (by simp only [ev, envOf, val_set, ofValue, ofCell, ↓reduceIte, Nat.reduceEqDiff] <;> rfl)) rfl rfl ?_
      refine o_rd (r_load1 (v := .int .i64 (ak)) Ty.agg3 (by simp only [ev, envOf, val_set, ofValue, ofCell, ↓reduceIte, Nat.reduceEqDiff] <;> rfl) (read_mt A1 (Nat.le_of_ble_eq_true rfl))) rfl rfl ?_
      refine o_rd (r_fieldAddr Ty.fo24_0 (by simp only [ev, envOf, val_set, ofValue, ofCell, ↓reduceIte, Nat.reduceEqDiff] <;> rfl)) rfl rfl ?_
      refine o_rd (r_load1 (v := .int .i64 (bk)) Ty.agg3 (by simp only [ev, envOf, val_set, ofValue, ofCell, ↓reduceIte, Nat.reduceEqDiff] <;> rfl) (read_mt A2 (Nat.le_of_ble_eq_true rfl))) rfl rfl ?_
      refine o_rd (r_ne (a := ak) (b := bk) (by simp only [ev, envOf, val_set, ofValue, ofCell, ↓reduceIte, Nat.reduceEqDiff] <;> rfl) (by simp only [ev, envOf, val_set, ofValue, ofCell, ↓reduceIte, Nat.reduceEqDiff] <;> rfl)) rfl rfl ?_
      refine o_rd (r_assign (by simp only [ev, envOf, val_set, ofValue, ofCell, ↓reduceIte, Nat.reduceEqDiff] <;> rfl)) rfl rfl ?_
      refine o_nil ?_
      refine w_cond (by simp only [ev, envOf, val_set, ofValue, ofCell, ↓reduceIte, Nat.reduceEqDiff] <;> rfl) (fun hc30 => ?_) (fun hc30 => ?_)
      · have hc30 := dec_t hc30
        refine w_seq ?_
        refine w_region ?_
        refine o_rd (r_build (cs := [.int .i64 (0), .int .i64 (0), .nils]) Ty.zero24 Ty.pl24 (by simp only [evParts, ev, envOf, val_set, ofValue, ofCell, ↓reduceIte, Nat.reduceEqDiff] <;> rfl) rfl) rfl rfl ?_
        refine o_st W3 (by simp only [ev, envOf, val_set, ofValue, ofCell, ↓reduceIte, Nat.reduceEqDiff] <;> rfl) (by simp only [ev, envOf, val_set, ofValue, ofCell, ↓reduceIte, Nat.reduceEqDiff] <;> rfl) A3 Ty.csz24 rfl (Nat.le_of_ble_eq_true rfl) (by rfl) rfl rfl ?_; intro H31 n31 W31 A31 K31
        have A31 : H31.at H2.n = some (.row [.int .i64 (0), .int .i64 (0), .nils] 24 false none) := A31
        have E31 := Ext.put W0 E3 (by have := E3.n; omega) K31 n31 W31
        have A1 := K31.own A1 (by omega)
        have A2 := K31.own A2 (by omega)
        refine o_rd (r_assign (by simp only [ev, envOf, val_set, ofValue, ofCell, ↓reduceIte, Nat.reduceEqDiff] <;> rfl)) rfl rfl ?_
        refine o_nil ?_
        have hr32 : H31.read (.mt H2.n) 0 3 = some [.int .i64 (0), .int .i64 (0), .nils] := read_mt A31 (Nat.le_of_ble_eq_true rfl)
        refine w_ret ⟨.inr rfl, rfl, .tup [.agg [.int .i64 (0), .int .i64 (0), .nils], .int .i64 (5)], (show resultA Try.prog [.cell 6 24, .tmp 7] _ = _ by simp only [resultA, resultsA, envOf, val_set, ↓reduceIte, Nat.reduceEqDiff, Option.map_some, hr32, Ty.agg24, Ty.csz24] <;> rfl), ?_⟩
        refine ⟨?_, E31⟩; (try subst hc30); first | (simp [binS, outS, sumsS, hg4, hg5, hc30]; done) | (simp [binS, outS, hg4, hg5, hc30]; done) | (subst_vars; simp [binS, outS, sumsS, hg4, hg5, hc30]; done) | (exfalso; omega)
      · have hc30 := dec_fn hc30
        refine w_seq ?_
        refine w_region ?_
        refine o_rd (r_move (by simp only [ev, envOf, val_set, ofValue, ofCell, ↓reduceIte, Nat.reduceEqDiff] <;> rfl)) rfl rfl ?_
        refine o_rd (r_move (by simp only [ev, envOf, val_set, ofValue, ofCell, ↓reduceIte, Nat.reduceEqDiff] <;> rfl)) rfl rfl ?_
        refine o_rd (r_move (by simp only [ev, envOf, val_set, ofValue, ofCell, ↓reduceIte, Nat.reduceEqDiff] <;> rfl)) rfl ((wanted_of (b := true) rfl rfl rfl (by simp only [val_set, ↓reduceIte, Nat.reduceEqDiff] <;> rfl)).trans rfl) ?_
        refine o_rd (r_eq (a := op) (b := 21) (by simp only [ev, envOf, val_set, ofValue, ofCell, ↓reduceIte, Nat.reduceEqDiff] <;> rfl) (by simp only [ev, envOf, val_set, ofValue, ofCell, ↓reduceIte, Nat.reduceEqDiff] <;> rfl)) rfl ((wanted_of (b := true) rfl rfl rfl (by simp only [val_set, ↓reduceIte, Nat.reduceEqDiff] <;> rfl)).trans rfl) ?_
        refine o_rd (r_pick (t := true) (by simp only [ev, envOf, val_set, ofValue, ofCell, ↓reduceIte, Nat.reduceEqDiff] <;> rfl) (fun _ => (by simp only [ev, envOf, val_set, ofValue, ofCell, ↓reduceIte, Nat.reduceEqDiff] <;> rfl)) (fun h => by cases h)) rfl rfl ?_
        refine o_rd (r_assign (by simp only [ev, envOf, val_set, ofValue, ofCell, ↓reduceIte, Nat.reduceEqDiff] <;> rfl)) rfl rfl ?_
        refine o_nil ?_
        refine w_cond (by simp only [ev, envOf, val_set, ofValue, ofCell, ↓reduceIte, Nat.reduceEqDiff] <;> rfl) (fun hc33 => ?_) (fun hc33 => ?_)
        · have hc33 := dec_t hc33
          refine w_seq ?_
          refine w_region ?_
          refine o_rd (r_fieldAddr Ty.fo24_1 (by simp only [ev, envOf, val_set, ofValue, ofCell, ↓reduceIte, Nat.reduceEqDiff] <;> rfl)) rfl rfl ?_
          refine o_rd (r_load1 (v := .int .i64 (an)) Ty.agg3 (by simp only [ev, envOf, val_set, ofValue, ofCell, ↓reduceIte, Nat.reduceEqDiff] <;> rfl) (read_mt A1 (Nat.le_of_ble_eq_true rfl))) rfl rfl ?_
          refine o_rd (r_fieldAddr Ty.fo24_1 (by simp only [ev, envOf, val_set, ofValue, ofCell, ↓reduceIte, Nat.reduceEqDiff] <;> rfl)) rfl rfl ?_
          refine o_rd (r_load1 (v := .int .i64 (bn)) Ty.agg3 (by simp only [ev, envOf, val_set, ofValue, ofCell, ↓reduceIte, Nat.reduceEqDiff] <;> rfl) (read_mt A2 (Nat.le_of_ble_eq_true rfl))) rfl rfl ?_
          refine o_rd (r_eq (a := an) (b := bn) (by simp only [ev, envOf, val_set, ofValue, ofCell, ↓reduceIte, Nat.reduceEqDiff] <;> rfl) (by simp only [ev, envOf, val_set, ofValue, ofCell, ↓reduceIte, Nat.reduceEqDiff] <;> rfl)) rfl rfl ?_
          refine o_cl rfl rfl (by simp only [evs, ev, envOf, val_set, ofValue, ofCell, ↓reduceIte, Nat.reduceEqDiff] <;> rfl) rfl (flag_fin ho W3 (decide (an = bn))) rfl rfl ?_; rintro _ H34 ⟨rfl, X34⟩
          have W34 := X34.wf; have E34 := E3.trans X34
          have A1 := X34.keep _ _ A1
          have A2 := X34.keep _ _ A2
          have A3 := X34.keep _ _ A3
          have n34 := X34.n
          refine o_st W34 (by simp only [ev, envOf, val_set, ofValue, ofCell, ↓reduceIte, Nat.reduceEqDiff] <;> rfl) (by simp only [ev, envOf, val_set, ofValue, ofCell, ↓reduceIte, Nat.reduceEqDiff] <;> rfl) A3 Ty.csz24 rfl (Nat.le_of_ble_eq_true rfl) (by rfl) rfl rfl ?_; intro H35 n35 W35 A35 K35
          have A35 : H35.at H2.n = some (.row [.int .i64 (2), .int .i64 (flagN (decide (an = bn))), .nils] 24 false none) := A35
          have E35 := Ext.put W0 E34 (by have := E34.n; omega) K35 n35 W35
          have A1 := K35.own A1 (by omega)
          have A2 := K35.own A2 (by omega)
          refine o_rd (r_assign (by simp only [ev, envOf, val_set, ofValue, ofCell, ↓reduceIte, Nat.reduceEqDiff] <;> rfl)) rfl rfl ?_
          refine o_nil ?_
          have hr36 : H35.read (.mt H2.n) 0 3 = some [.int .i64 (2), .int .i64 (flagN (decide (an = bn))), .nils] := read_mt A35 (Nat.le_of_ble_eq_true rfl)
          refine w_ret ⟨.inr rfl, rfl, .tup [.agg [.int .i64 (2), .int .i64 (flagN (decide (an = bn))), .nils], .int .i64 (0)], (show resultA Try.prog [.cell 6 24, .tmp 7] _ = _ by simp only [resultA, resultsA, envOf, val_set, ↓reduceIte, Nat.reduceEqDiff, Option.map_some, hr36, Ty.agg24, Ty.csz24] <;> rfl), ?_⟩
          refine ⟨?_, E35⟩; (try subst hc30); first | (simp [binS, outS, sumsS, hg4, hg5, hc30, hc33]; done) | (simp [binS, outS, hg4, hg5, hc30, hc33]; done) | (subst_vars; simp [binS, outS, sumsS, hg4, hg5, hc30, hc33]; done) | (exfalso; omega)
        · have hc33 := dec_f hc33
          refine w_seq ?_
          refine w_region ?_
          refine o_rd (r_move (by simp only [ev, envOf, val_set, ofValue, ofCell, ↓reduceIte, Nat.reduceEqDiff] <;> rfl)) rfl rfl ?_
          refine o_rd (r_move (by simp only [ev, envOf, val_set, ofValue, ofCell, ↓reduceIte, Nat.reduceEqDiff] <;> rfl)) rfl rfl ?_
          refine o_rd (r_move (by simp only [ev, envOf, val_set, ofValue, ofCell, ↓reduceIte, Nat.reduceEqDiff] <;> rfl)) rfl ((wanted_of (b := true) rfl rfl rfl (by simp only [val_set, ↓reduceIte, Nat.reduceEqDiff] <;> rfl)).trans rfl) ?_
          refine o_rd (r_eq (a := op) (b := 22) (by simp only [ev, envOf, val_set, ofValue, ofCell, ↓reduceIte, Nat.reduceEqDiff] <;> rfl) (by simp only [ev, envOf, val_set, ofValue, ofCell, ↓reduceIte, Nat.reduceEqDiff] <;> rfl)) rfl ((wanted_of (b := true) rfl rfl rfl (by simp only [val_set, ↓reduceIte, Nat.reduceEqDiff] <;> rfl)).trans rfl) ?_
          refine o_rd (r_pick (t := true) (by simp only [ev, envOf, val_set, ofValue, ofCell, ↓reduceIte, Nat.reduceEqDiff] <;> rfl) (fun _ => (by simp only [ev, envOf, val_set, ofValue, ofCell, ↓reduceIte, Nat.reduceEqDiff] <;> rfl)) (fun h => by cases h)) rfl rfl ?_
          refine o_rd (r_assign (by simp only [ev, envOf, val_set, ofValue, ofCell, ↓reduceIte, Nat.reduceEqDiff] <;> rfl)) rfl rfl ?_
          refine o_nil ?_
          refine w_cond (by simp only [ev, envOf, val_set, ofValue, ofCell, ↓reduceIte, Nat.reduceEqDiff] <;> rfl) (fun hc37 => ?_) (fun hc37 => ?_)
          · have hc37 := dec_t hc37
            refine w_seq ?_
            refine w_region ?_
            refine o_rd (r_fieldAddr Ty.fo24_1 (by simp only [ev, envOf, val_set, ofValue, ofCell, ↓reduceIte, Nat.reduceEqDiff] <;> rfl)) rfl rfl ?_
            refine o_rd (r_load1 (v := .int .i64 (an)) Ty.agg3 (by simp only [ev, envOf, val_set, ofValue, ofCell, ↓reduceIte, Nat.reduceEqDiff] <;> rfl) (read_mt A1 (Nat.le_of_ble_eq_true rfl))) rfl rfl ?_
            refine o_rd (r_fieldAddr Ty.fo24_1 (by simp only [ev, envOf, val_set, ofValue, ofCell, ↓reduceIte, Nat.reduceEqDiff] <;> rfl)) rfl rfl ?_
            refine o_rd (r_load1 (v := .int .i64 (bn)) Ty.agg3 (by simp only [ev, envOf, val_set, ofValue, ofCell, ↓reduceIte, Nat.reduceEqDiff] <;> rfl) (read_mt A2 (Nat.le_of_ble_eq_true rfl))) rfl rfl ?_
            refine o_rd (r_ne (a := an) (b := bn) (by simp only [ev, envOf, val_set, ofValue, ofCell, ↓reduceIte, Nat.reduceEqDiff] <;> rfl) (by simp only [ev, envOf, val_set, ofValue, ofCell, ↓reduceIte, Nat.reduceEqDiff] <;> rfl)) rfl rfl ?_
            refine o_cl rfl rfl (by simp only [evs, ev, envOf, val_set, ofValue, ofCell, ↓reduceIte, Nat.reduceEqDiff] <;> rfl) rfl (flag_fin ho W3 (decide (an ≠ bn))) rfl rfl ?_; rintro _ H38 ⟨rfl, X38⟩
            have W38 := X38.wf; have E38 := E3.trans X38
            have A1 := X38.keep _ _ A1
            have A2 := X38.keep _ _ A2
            have A3 := X38.keep _ _ A3
            have n38 := X38.n
            refine o_st W38 (by simp only [ev, envOf, val_set, ofValue, ofCell, ↓reduceIte, Nat.reduceEqDiff] <;> rfl) (by simp only [ev, envOf, val_set, ofValue, ofCell, ↓reduceIte, Nat.reduceEqDiff] <;> rfl) A3 Ty.csz24 rfl (Nat.le_of_ble_eq_true rfl) (by rfl) rfl rfl ?_; intro H39 n39 W39 A39 K39
            have A39 : H39.at H2.n = some (.row [.int .i64 (2), .int .i64 (flagN (decide (an ≠ bn))), .nils] 24 false none) := A39
            have E39 := Ext.put W0 E38 (by have := E38.n; omega) K39 n39 W39
            have A1 := K39.own A1 (by omega)
            have A2 := K39.own A2 (by omega)
            refine o_rd (r_assign (by simp only [ev, envOf, val_set, ofValue, ofCell, ↓reduceIte, Nat.reduceEqDiff] <;> rfl)) rfl rfl ?_
            refine o_nil ?_
            have hr40 : H39.read (.mt H2.n) 0 3 = some [.int .i64 (2), .int .i64 (flagN (decide (an ≠ bn))), .nils] := read_mt A39 (Nat.le_of_ble_eq_true rfl)
            refine w_ret ⟨.inr rfl, rfl, .tup [.agg [.int .i64 (2), .int .i64 (flagN (decide (an ≠ bn))), .nils], .int .i64 (0)], (show resultA Try.prog [.cell 6 24, .tmp 7] _ = _ by simp only [resultA, resultsA, envOf, val_set, ↓reduceIte, Nat.reduceEqDiff, Option.map_some, hr40, Ty.agg24, Ty.csz24] <;> rfl), ?_⟩
            refine ⟨?_, E39⟩; (try subst hc30); first | (simp [binS, outS, sumsS, hg4, hg5, hc30, hc33, hc37]; done) | (simp [binS, outS, hg4, hg5, hc30, hc33, hc37]; done) | (subst_vars; simp [binS, outS, sumsS, hg4, hg5, hc30, hc33, hc37]; done) | (exfalso; omega)
          · have hc37 := dec_f hc37
            refine w_seq ?_
            refine w_region ?_
            refine o_rd (r_fieldAddr Ty.fo24_0 (by simp only [ev, envOf, val_set, ofValue, ofCell, ↓reduceIte, Nat.reduceEqDiff] <;> rfl)) rfl rfl ?_
            refine o_rd (r_load1 (v := .int .i64 (ak)) Ty.agg3 (by simp only [ev, envOf, val_set, ofValue, ofCell, ↓reduceIte, Nat.reduceEqDiff] <;> rfl) (read_mt A1 (Nat.le_of_ble_eq_true rfl))) rfl rfl ?_
            refine o_rd (r_eq (a := ak) (b := 1) (by simp only [ev, envOf, val_set, ofValue, ofCell, ↓reduceIte, Nat.reduceEqDiff] <;> rfl) (by simp only [ev, envOf, val_set, ofValue, ofCell, ↓reduceIte, Nat.reduceEqDiff] <;> rfl)) rfl rfl ?_
            refine o_rd (r_assign (by simp only [ev, envOf, val_set, ofValue, ofCell, ↓reduceIte, Nat.reduceEqDiff] <;> rfl)) rfl rfl ?_
            refine o_nil ?_
            refine w_cond (by simp only [ev, envOf, val_set, ofValue, ofCell, ↓reduceIte, Nat.reduceEqDiff] <;> rfl) (fun hc41 => ?_) (fun hc41 => ?_)
            · have hc41 := dec_t hc41
              refine w_seq ?_
              refine w_region ?_
              refine o_rd (r_move (by simp only [ev, envOf, val_set, ofValue, ofCell, ↓reduceIte, Nat.reduceEqDiff] <;> rfl)) rfl rfl ?_
              refine o_rd (r_fieldAddr Ty.fo24_1 (by simp only [ev, envOf, val_set, ofValue, ofCell, ↓reduceIte, Nat.reduceEqDiff] <;> rfl)) rfl rfl ?_
              refine o_rd (r_load1 (v := .int .i64 (an)) Ty.agg3 (by simp only [ev, envOf, val_set, ofValue, ofCell, ↓reduceIte, Nat.reduceEqDiff] <;> rfl) (read_mt A1 (Nat.le_of_ble_eq_true rfl))) rfl rfl ?_
              refine o_rd (r_fieldAddr Ty.fo24_1 (by simp only [ev, envOf, val_set, ofValue, ofCell, ↓reduceIte, Nat.reduceEqDiff] <;> rfl)) rfl rfl ?_
              refine o_rd (r_load1 (v := .int .i64 (bn)) Ty.agg3 (by simp only [ev, envOf, val_set, ofValue, ofCell, ↓reduceIte, Nat.reduceEqDiff] <;> rfl) (read_mt A2 (Nat.le_of_ble_eq_true rfl))) rfl rfl ?_
              refine o_cl rfl rfl (by simp only [evs, ev, envOf, val_set, ofValue, ofCell, ↓reduceIte, Nat.reduceEqDiff] <;> rfl) rfl (sums_fin ho W3 (op) (an) (bn)) rfl rfl ?_; rintro _ H42 ⟨rfl, X42⟩
              have W42 := X42.wf; have E42 := E3.trans X42
              have A1 := X42.keep _ _ A1
              have A2 := X42.keep _ _ A2
              have A3 := X42.keep _ _ A3
              have n42 := X42.n
              refine o_rd (r_extract (by simp only [ev, envOf, val_set, ofValue, ofCell, ↓reduceIte, Nat.reduceEqDiff] <;> rfl) rfl) rfl rfl ?_
              refine o_rd (r_extract (by simp only [ev, envOf, val_set, ofValue, ofCell, ↓reduceIte, Nat.reduceEqDiff] <;> rfl) rfl) rfl rfl ?_
              refine o_st W42 (by simp only [ev, envOf, val_set, ofValue, ofCell, ↓reduceIte, Nat.reduceEqDiff] <;> rfl) (by simp only [ev, envOf, val_set, ofValue, ofCell, ↓reduceIte, Nat.reduceEqDiff] <;> rfl) A3 Ty.csz24 rfl (Nat.le_of_ble_eq_true rfl) (by rfl) rfl rfl ?_; intro H43 n43 W43 A43 K43
              have A43 : H43.at H2.n = some (.row [.int .i64 ((sumsS (op) (an) (bn)).1), .int .i64 ((sumsS (op) (an) (bn)).2.1), .nils] 24 false none) := A43
              have E43 := Ext.put W0 E42 (by have := E42.n; omega) K43 n43 W43
              have A1 := K43.own A1 (by omega)
              have A2 := K43.own A2 (by omega)
              refine o_rd (r_assign (by simp only [ev, envOf, val_set, ofValue, ofCell, ↓reduceIte, Nat.reduceEqDiff] <;> rfl)) rfl rfl ?_
              refine o_nil ?_
              have hr44 : H43.read (.mt H2.n) 0 3 = some [.int .i64 ((sumsS (op) (an) (bn)).1), .int .i64 ((sumsS (op) (an) (bn)).2.1), .nils] := read_mt A43 (Nat.le_of_ble_eq_true rfl)
              refine w_ret ⟨.inr rfl, rfl, .tup [.agg [.int .i64 ((sumsS (op) (an) (bn)).1), .int .i64 ((sumsS (op) (an) (bn)).2.1), .nils], .int .i64 ((sumsS (op) (an) (bn)).2.2)], (show resultA Try.prog [.cell 6 24, .tmp 7] _ = _ by simp only [resultA, resultsA, envOf, val_set, ↓reduceIte, Nat.reduceEqDiff, Option.map_some, hr44, Ty.agg24, Ty.csz24] <;> rfl), ?_⟩
              refine ⟨?_, E43⟩; (try subst hc30); first | (simp [binS, outS, sumsS, hg4, hg5, hc30, hc33, hc37, hc41]; done) | (simp [binS, outS, hg4, hg5, hc30, hc33, hc37, hc41]; done) | (subst_vars; simp [binS, outS, sumsS, hg4, hg5, hc30, hc33, hc37, hc41]; done) | (exfalso; omega)
            · have hc41 := dec_f hc41
              refine w_skip ?_
              refine w_seq ?_
              refine w_region ?_
              refine o_rd (r_build (cs := [.int .i64 (0), .int .i64 (0), .nils]) Ty.zero24 Ty.pl24 (by simp only [evParts, ev, envOf, val_set, ofValue, ofCell, ↓reduceIte, Nat.reduceEqDiff] <;> rfl) rfl) rfl rfl ?_
              refine o_st W3 (by simp only [ev, envOf, val_set, ofValue, ofCell, ↓reduceIte, Nat.reduceEqDiff] <;> rfl) (by simp only [ev, envOf, val_set, ofValue, ofCell, ↓reduceIte, Nat.reduceEqDiff] <;> rfl) A3 Ty.csz24 rfl (Nat.le_of_ble_eq_true rfl) (by rfl) rfl rfl ?_; intro H45 n45 W45 A45 K45
              have A45 : H45.at H2.n = some (.row [.int .i64 (0), .int .i64 (0), .nils] 24 false none) := A45
              have E45 := Ext.put W0 E3 (by have := E3.n; omega) K45 n45 W45
              have A1 := K45.own A1 (by omega)
              have A2 := K45.own A2 (by omega)
              refine o_rd (r_assign (by simp only [ev, envOf, val_set, ofValue, ofCell, ↓reduceIte, Nat.reduceEqDiff] <;> rfl)) rfl rfl ?_
              refine o_nil ?_
              have hr46 : H45.read (.mt H2.n) 0 3 = some [.int .i64 (0), .int .i64 (0), .nils] := read_mt A45 (Nat.le_of_ble_eq_true rfl)
              refine w_ret ⟨.inr rfl, rfl, .tup [.agg [.int .i64 (0), .int .i64 (0), .nils], .int .i64 (5)], (show resultA Try.prog [.cell 6 24, .tmp 7] _ = _ by simp only [resultA, resultsA, envOf, val_set, ↓reduceIte, Nat.reduceEqDiff, Option.map_some, hr46, Ty.agg24, Ty.csz24] <;> rfl), ?_⟩
              refine ⟨?_, E45⟩; (try subst hc30); first | (simp [binS, outS, sumsS, hg4, hg5, hc30, hc33, hc37, hc41]; done) | (simp [binS, outS, hg4, hg5, hc30, hc33, hc37, hc41]; done) | (subst_vars; simp [binS, outS, sumsS, hg4, hg5, hc30, hc33, hc37, hc41]; done) | (exfalso; omega)
  · have hg4 := dec_t hg4
    refine o_sk rfl ((wanted_of (b := true) rfl rfl rfl (by simp only [val_set, ↓reduceIte, Nat.reduceEqDiff] <;> rfl)).trans rfl) ?_
    refine o_sk rfl ((wanted_of (b := true) rfl rfl rfl (by simp only [val_set, ↓reduceIte, Nat.reduceEqDiff] <;> rfl)).trans rfl) ?_
    refine o_sk rfl ((wanted_of (b := true) rfl rfl rfl (by simp only [val_set, ↓reduceIte, Nat.reduceEqDiff] <;> rfl)).trans rfl) ?_
    refine o_rd (r_pick (t := true) (by simp only [ev, envOf, val_set, ofValue, ofCell, ↓reduceIte, Nat.reduceEqDiff] <;> rfl) (fun _ => (by simp only [ev, envOf, val_set, ofValue, ofCell, ↓reduceIte, Nat.reduceEqDiff] <;> rfl)) (fun h => by cases h)) rfl rfl ?_
    refine o_rd (r_move (by simp only [ev, envOf, val_set, ofValue, ofCell, ↓reduceIte, Nat.reduceEqDiff] <;> rfl)) rfl rfl ?_
    refine o_sk rfl ((wanted_of (b := true) rfl rfl rfl (by simp only [val_set, ↓reduceIte, Nat.reduceEqDiff] <;> rfl)).trans rfl) ?_
    refine o_sk rfl ((wanted_of (b := true) rfl rfl rfl (by simp only [val_set, ↓reduceIte, Nat.reduceEqDiff] <;> rfl)).trans rfl) ?_
    refine o_sk rfl ((wanted_of (b := true) rfl rfl rfl (by simp only [val_set, ↓reduceIte, Nat.reduceEqDiff] <;> rfl)).trans rfl) ?_
    refine o_rd (r_pick (t := true) (by simp only [ev, envOf, val_set, ofValue, ofCell, ↓reduceIte, Nat.reduceEqDiff] <;> rfl) (fun _ => (by simp only [ev, envOf, val_set, ofValue, ofCell, ↓reduceIte, Nat.reduceEqDiff] <;> rfl)) (fun h => by cases h)) rfl rfl ?_
    refine o_rd (r_assign (by simp only [ev, envOf, val_set, ofValue, ofCell, ↓reduceIte, Nat.reduceEqDiff] <;> rfl)) rfl rfl ?_
    refine o_nil ?_
    refine w_seq ?_
    refine w_block ?_
    refine w_seq ?_
    refine w_region ?_
    refine o_rd (r_fieldAddr Ty.fo24_0 (by simp only [ev, envOf, val_set, ofValue, ofCell, ↓reduceIte, Nat.reduceEqDiff] <;> rfl)) rfl rfl ?_
    refine o_rd (r_load1 (v := .int .i64 (ak)) Ty.agg3 (by simp only [ev, envOf, val_set, ofValue, ofCell, ↓reduceIte, Nat.reduceEqDiff] <;> rfl) (read_mt A1 (Nat.le_of_ble_eq_true rfl))) rfl rfl ?_
    refine o_rd (r_fieldAddr Ty.fo24_0 (by simp only [ev, envOf, val_set, ofValue, ofCell, ↓reduceIte, Nat.reduceEqDiff] <;> rfl)) rfl rfl ?_
    refine o_rd (r_load1 (v := .int .i64 (bk)) Ty.agg3 (by simp only [ev, envOf, val_set, ofValue, ofCell, ↓reduceIte, Nat.reduceEqDiff] <;> rfl) (read_mt A2 (Nat.le_of_ble_eq_true rfl))) rfl rfl ?_
    refine o_rd (r_ne (a := ak) (b := bk) (by simp only [ev, envOf, val_set, ofValue, ofCell, ↓reduceIte, Nat.reduceEqDiff] <;> rfl) (by simp only [ev, envOf, val_set, ofValue, ofCell, ↓reduceIte, Nat.reduceEqDiff] <;> rfl)) rfl rfl ?_
    refine o_rd (r_assign (by simp only [ev, envOf, val_set, ofValue, ofCell, ↓reduceIte, Nat.reduceEqDiff] <;> rfl)) rfl rfl ?_
    refine o_nil ?_
    refine w_cond (by simp only [ev, envOf, val_set, ofValue, ofCell, ↓reduceIte, Nat.reduceEqDiff] <;> rfl) (fun hc47 => ?_) (fun hc47 => ?_)
    · have hc47 := dec_t hc47
      refine w_seq ?_
      refine w_region ?_
      refine o_rd (r_build (cs := [.int .i64 (0), .int .i64 (0), .nils]) Ty.zero24 Ty.pl24 (by simp only [evParts, ev, envOf, val_set, ofValue, ofCell, ↓reduceIte, Nat.reduceEqDiff] <;> rfl) rfl) rfl rfl ?_
      refine o_st W3 (by simp only [ev, envOf, val_set, ofValue, ofCell, ↓reduceIte, Nat.reduceEqDiff] <;> rfl) (by simp only [ev, envOf, val_set, ofValue, ofCell, ↓reduceIte, Nat.reduceEqDiff] <;> rfl) A3 Ty.csz24 rfl (Nat.le_of_ble_eq_true rfl) (by rfl) rfl rfl ?_; intro H48 n48 W48 A48 K48
      have A48 : H48.at H2.n = some (.row [.int .i64 (0), .int .i64 (0), .nils] 24 false none) := A48
      have E48 := Ext.put W0 E3 (by have := E3.n; omega) K48 n48 W48
      have A1 := K48.own A1 (by omega)
      have A2 := K48.own A2 (by omega)
      refine o_rd (r_assign (by simp only [ev, envOf, val_set, ofValue, ofCell, ↓reduceIte, Nat.reduceEqDiff] <;> rfl)) rfl rfl ?_
      refine o_nil ?_
      have hr49 : H48.read (.mt H2.n) 0 3 = some [.int .i64 (0), .int .i64 (0), .nils] := read_mt A48 (Nat.le_of_ble_eq_true rfl)
      refine w_ret ⟨.inr rfl, rfl, .tup [.agg [.int .i64 (0), .int .i64 (0), .nils], .int .i64 (5)], (show resultA Try.prog [.cell 6 24, .tmp 7] _ = _ by simp only [resultA, resultsA, envOf, val_set, ↓reduceIte, Nat.reduceEqDiff, Option.map_some, hr49, Ty.agg24, Ty.csz24] <;> rfl), ?_⟩
      refine ⟨?_, E48⟩; (try subst hc47); first | (simp [binS, outS, sumsS, hg4, hc47]; done) | (simp [binS, outS, hg4, hc47]; done) | (subst_vars; simp [binS, outS, sumsS, hg4, hc47]; done) | (exfalso; omega)
    · have hc47 := dec_fn hc47
      refine w_seq ?_
      refine w_region ?_
      refine o_rd (r_move (by simp only [ev, envOf, val_set, ofValue, ofCell, ↓reduceIte, Nat.reduceEqDiff] <;> rfl)) rfl rfl ?_
      refine o_rd (r_move (by simp only [ev, envOf, val_set, ofValue, ofCell, ↓reduceIte, Nat.reduceEqDiff] <;> rfl)) rfl rfl ?_
      refine o_rd (r_move (by simp only [ev, envOf, val_set, ofValue, ofCell, ↓reduceIte, Nat.reduceEqDiff] <;> rfl)) rfl ((wanted_of (b := true) rfl rfl rfl (by simp only [val_set, ↓reduceIte, Nat.reduceEqDiff] <;> rfl)).trans rfl) ?_
      refine o_rd (r_eq (a := op) (b := 21) (by simp only [ev, envOf, val_set, ofValue, ofCell, ↓reduceIte, Nat.reduceEqDiff] <;> rfl) (by simp only [ev, envOf, val_set, ofValue, ofCell, ↓reduceIte, Nat.reduceEqDiff] <;> rfl)) rfl ((wanted_of (b := true) rfl rfl rfl (by simp only [val_set, ↓reduceIte, Nat.reduceEqDiff] <;> rfl)).trans rfl) ?_
      refine o_rd (r_pick (t := true) (by simp only [ev, envOf, val_set, ofValue, ofCell, ↓reduceIte, Nat.reduceEqDiff] <;> rfl) (fun _ => (by simp only [ev, envOf, val_set, ofValue, ofCell, ↓reduceIte, Nat.reduceEqDiff] <;> rfl)) (fun h => by cases h)) rfl rfl ?_
      refine o_rd (r_assign (by simp only [ev, envOf, val_set, ofValue, ofCell, ↓reduceIte, Nat.reduceEqDiff] <;> rfl)) rfl rfl ?_
      refine o_nil ?_
      refine w_cond (by simp only [ev, envOf, val_set, ofValue, ofCell, ↓reduceIte, Nat.reduceEqDiff] <;> rfl) (fun hc50 => ?_) (fun hc50 => ?_)
      · have hc50 := dec_t hc50
        refine w_seq ?_
        refine w_region ?_
        refine o_rd (r_fieldAddr Ty.fo24_1 (by simp only [ev, envOf, val_set, ofValue, ofCell, ↓reduceIte, Nat.reduceEqDiff] <;> rfl)) rfl rfl ?_
        refine o_rd (r_load1 (v := .int .i64 (an)) Ty.agg3 (by simp only [ev, envOf, val_set, ofValue, ofCell, ↓reduceIte, Nat.reduceEqDiff] <;> rfl) (read_mt A1 (Nat.le_of_ble_eq_true rfl))) rfl rfl ?_
        refine o_rd (r_fieldAddr Ty.fo24_1 (by simp only [ev, envOf, val_set, ofValue, ofCell, ↓reduceIte, Nat.reduceEqDiff] <;> rfl)) rfl rfl ?_
        refine o_rd (r_load1 (v := .int .i64 (bn)) Ty.agg3 (by simp only [ev, envOf, val_set, ofValue, ofCell, ↓reduceIte, Nat.reduceEqDiff] <;> rfl) (read_mt A2 (Nat.le_of_ble_eq_true rfl))) rfl rfl ?_
        refine o_rd (r_eq (a := an) (b := bn) (by simp only [ev, envOf, val_set, ofValue, ofCell, ↓reduceIte, Nat.reduceEqDiff] <;> rfl) (by simp only [ev, envOf, val_set, ofValue, ofCell, ↓reduceIte, Nat.reduceEqDiff] <;> rfl)) rfl rfl ?_
        refine o_cl rfl rfl (by simp only [evs, ev, envOf, val_set, ofValue, ofCell, ↓reduceIte, Nat.reduceEqDiff] <;> rfl) rfl (flag_fin ho W3 (decide (an = bn))) rfl rfl ?_; rintro _ H51 ⟨rfl, X51⟩
        have W51 := X51.wf; have E51 := E3.trans X51
        have A1 := X51.keep _ _ A1
        have A2 := X51.keep _ _ A2
        have A3 := X51.keep _ _ A3
        have n51 := X51.n
        refine o_st W51 (by simp only [ev, envOf, val_set, ofValue, ofCell, ↓reduceIte, Nat.reduceEqDiff] <;> rfl) (by simp only [ev, envOf, val_set, ofValue, ofCell, ↓reduceIte, Nat.reduceEqDiff] <;> rfl) A3 Ty.csz24 rfl (Nat.le_of_ble_eq_true rfl) (by rfl) rfl rfl ?_; intro H52 n52 W52 A52 K52
        have A52 : H52.at H2.n = some (.row [.int .i64 (2), .int .i64 (flagN (decide (an = bn))), .nils] 24 false none) := A52
        have E52 := Ext.put W0 E51 (by have := E51.n; omega) K52 n52 W52
        have A1 := K52.own A1 (by omega)
        have A2 := K52.own A2 (by omega)
        refine o_rd (r_assign (by simp only [ev, envOf, val_set, ofValue, ofCell, ↓reduceIte, Nat.reduceEqDiff] <;> rfl)) rfl rfl ?_
        refine o_nil ?_
        have hr53 : H52.read (.mt H2.n) 0 3 = some [.int .i64 (2), .int .i64 (flagN (decide (an = bn))), .nils] := read_mt A52 (Nat.le_of_ble_eq_true rfl)
        refine w_ret ⟨.inr rfl, rfl, .tup [.agg [.int .i64 (2), .int .i64 (flagN (decide (an = bn))), .nils], .int .i64 (0)], (show resultA Try.prog [.cell 6 24, .tmp 7] _ = _ by simp only [resultA, resultsA, envOf, val_set, ↓reduceIte, Nat.reduceEqDiff, Option.map_some, hr53, Ty.agg24, Ty.csz24] <;> rfl), ?_⟩
        refine ⟨?_, E52⟩; (try subst hc47); first | (simp [binS, outS, sumsS, hg4, hc47, hc50]; done) | (simp [binS, outS, hg4, hc47, hc50]; done) | (subst_vars; simp [binS, outS, sumsS, hg4, hc47, hc50]; done) | (exfalso; omega)
      · have hc50 := dec_f hc50
        refine w_seq ?_
        refine w_region ?_
        refine o_rd (r_move (by simp only [ev, envOf, val_set, ofValue, ofCell, ↓reduceIte, Nat.reduceEqDiff] <;> rfl)) rfl rfl ?_
        refine o_rd (r_move (by simp only [ev, envOf, val_set, ofValue, ofCell, ↓reduceIte, Nat.reduceEqDiff] <;> rfl)) rfl rfl ?_
        refine o_rd (r_move (by simp only [ev, envOf, val_set, ofValue, ofCell, ↓reduceIte, Nat.reduceEqDiff] <;> rfl)) rfl ((wanted_of (b := true) rfl rfl rfl (by simp only [val_set, ↓reduceIte, Nat.reduceEqDiff] <;> rfl)).trans rfl) ?_
        refine o_rd (r_eq (a := op) (b := 22) (by simp only [ev, envOf, val_set, ofValue, ofCell, ↓reduceIte, Nat.reduceEqDiff] <;> rfl) (by simp only [ev, envOf, val_set, ofValue, ofCell, ↓reduceIte, Nat.reduceEqDiff] <;> rfl)) rfl ((wanted_of (b := true) rfl rfl rfl (by simp only [val_set, ↓reduceIte, Nat.reduceEqDiff] <;> rfl)).trans rfl) ?_
        refine o_rd (r_pick (t := true) (by simp only [ev, envOf, val_set, ofValue, ofCell, ↓reduceIte, Nat.reduceEqDiff] <;> rfl) (fun _ => (by simp only [ev, envOf, val_set, ofValue, ofCell, ↓reduceIte, Nat.reduceEqDiff] <;> rfl)) (fun h => by cases h)) rfl rfl ?_
        refine o_rd (r_assign (by simp only [ev, envOf, val_set, ofValue, ofCell, ↓reduceIte, Nat.reduceEqDiff] <;> rfl)) rfl rfl ?_
        refine o_nil ?_
        refine w_cond (by simp only [ev, envOf, val_set, ofValue, ofCell, ↓reduceIte, Nat.reduceEqDiff] <;> rfl) (fun hc54 => ?_) (fun hc54 => ?_)
        · have hc54 := dec_t hc54
          refine w_seq ?_
          refine w_region ?_
          refine o_rd (r_fieldAddr Ty.fo24_1 (by simp only [ev, envOf, val_set, ofValue, ofCell, ↓reduceIte, Nat.reduceEqDiff] <;> rfl)) rfl rfl ?_
          refine o_rd (r_load1 (v := .int .i64 (an)) Ty.agg3 (by simp only [ev, envOf, val_set, ofValue, ofCell, ↓reduceIte, Nat.reduceEqDiff] <;> rfl) (read_mt A1 (Nat.le_of_ble_eq_true rfl))) rfl rfl ?_
          refine o_rd (r_fieldAddr Ty.fo24_1 (by simp only [ev, envOf, val_set, ofValue, ofCell, ↓reduceIte, Nat.reduceEqDiff] <;> rfl)) rfl rfl ?_
          refine o_rd (r_load1 (v := .int .i64 (bn)) Ty.agg3 (by simp only [ev, envOf, val_set, ofValue, ofCell, ↓reduceIte, Nat.reduceEqDiff] <;> rfl) (read_mt A2 (Nat.le_of_ble_eq_true rfl))) rfl rfl ?_
          refine o_rd (r_ne (a := an) (b := bn) (by simp only [ev, envOf, val_set, ofValue, ofCell, ↓reduceIte, Nat.reduceEqDiff] <;> rfl) (by simp only [ev, envOf, val_set, ofValue, ofCell, ↓reduceIte, Nat.reduceEqDiff] <;> rfl)) rfl rfl ?_
          refine o_cl rfl rfl (by simp only [evs, ev, envOf, val_set, ofValue, ofCell, ↓reduceIte, Nat.reduceEqDiff] <;> rfl) rfl (flag_fin ho W3 (decide (an ≠ bn))) rfl rfl ?_; rintro _ H55 ⟨rfl, X55⟩
          have W55 := X55.wf; have E55 := E3.trans X55
          have A1 := X55.keep _ _ A1
          have A2 := X55.keep _ _ A2
          have A3 := X55.keep _ _ A3
          have n55 := X55.n
          refine o_st W55 (by simp only [ev, envOf, val_set, ofValue, ofCell, ↓reduceIte, Nat.reduceEqDiff] <;> rfl) (by simp only [ev, envOf, val_set, ofValue, ofCell, ↓reduceIte, Nat.reduceEqDiff] <;> rfl) A3 Ty.csz24 rfl (Nat.le_of_ble_eq_true rfl) (by rfl) rfl rfl ?_; intro H56 n56 W56 A56 K56
          have A56 : H56.at H2.n = some (.row [.int .i64 (2), .int .i64 (flagN (decide (an ≠ bn))), .nils] 24 false none) := A56
          have E56 := Ext.put W0 E55 (by have := E55.n; omega) K56 n56 W56
          have A1 := K56.own A1 (by omega)
          have A2 := K56.own A2 (by omega)
          refine o_rd (r_assign (by simp only [ev, envOf, val_set, ofValue, ofCell, ↓reduceIte, Nat.reduceEqDiff] <;> rfl)) rfl rfl ?_
          refine o_nil ?_
          have hr57 : H56.read (.mt H2.n) 0 3 = some [.int .i64 (2), .int .i64 (flagN (decide (an ≠ bn))), .nils] := read_mt A56 (Nat.le_of_ble_eq_true rfl)
          refine w_ret ⟨.inr rfl, rfl, .tup [.agg [.int .i64 (2), .int .i64 (flagN (decide (an ≠ bn))), .nils], .int .i64 (0)], (show resultA Try.prog [.cell 6 24, .tmp 7] _ = _ by simp only [resultA, resultsA, envOf, val_set, ↓reduceIte, Nat.reduceEqDiff, Option.map_some, hr57, Ty.agg24, Ty.csz24] <;> rfl), ?_⟩
          refine ⟨?_, E56⟩; (try subst hc47); first | (simp [binS, outS, sumsS, hg4, hc47, hc50, hc54]; done) | (simp [binS, outS, hg4, hc47, hc50, hc54]; done) | (subst_vars; simp [binS, outS, sumsS, hg4, hc47, hc50, hc54]; done) | (exfalso; omega)
        · have hc54 := dec_f hc54
          refine w_seq ?_
          refine w_region ?_
          refine o_rd (r_fieldAddr Ty.fo24_0 (by simp only [ev, envOf, val_set, ofValue, ofCell, ↓reduceIte, Nat.reduceEqDiff] <;> rfl)) rfl rfl ?_
          refine o_rd (r_load1 (v := .int .i64 (ak)) Ty.agg3 (by simp only [ev, envOf, val_set, ofValue, ofCell, ↓reduceIte, Nat.reduceEqDiff] <;> rfl) (read_mt A1 (Nat.le_of_ble_eq_true rfl))) rfl rfl ?_
          refine o_rd (r_eq (a := ak) (b := 1) (by simp only [ev, envOf, val_set, ofValue, ofCell, ↓reduceIte, Nat.reduceEqDiff] <;> rfl) (by simp only [ev, envOf, val_set, ofValue, ofCell, ↓reduceIte, Nat.reduceEqDiff] <;> rfl)) rfl rfl ?_
          refine o_rd (r_assign (by simp only [ev, envOf, val_set, ofValue, ofCell, ↓reduceIte, Nat.reduceEqDiff] <;> rfl)) rfl rfl ?_
          refine o_nil ?_
          refine w_cond (by simp only [ev, envOf, val_set, ofValue, ofCell, ↓reduceIte, Nat.reduceEqDiff] <;> rfl) (fun hc58 => ?_) (fun hc58 => ?_)
          · have hc58 := dec_t hc58
            refine w_seq ?_
            refine w_region ?_
            refine o_rd (r_move (by simp only [ev, envOf, val_set, ofValue, ofCell, ↓reduceIte, Nat.reduceEqDiff] <;> rfl)) rfl rfl ?_
            refine o_rd (r_fieldAddr Ty.fo24_1 (by simp only [ev, envOf, val_set, ofValue, ofCell, ↓reduceIte, Nat.reduceEqDiff] <;> rfl)) rfl rfl ?_
            refine o_rd (r_load1 (v := .int .i64 (an)) Ty.agg3 (by simp only [ev, envOf, val_set, ofValue, ofCell, ↓reduceIte, Nat.reduceEqDiff] <;> rfl) (read_mt A1 (Nat.le_of_ble_eq_true rfl))) rfl rfl ?_
            refine o_rd (r_fieldAddr Ty.fo24_1 (by simp only [ev, envOf, val_set, ofValue, ofCell, ↓reduceIte, Nat.reduceEqDiff] <;> rfl)) rfl rfl ?_
            refine o_rd (r_load1 (v := .int .i64 (bn)) Ty.agg3 (by simp only [ev, envOf, val_set, ofValue, ofCell, ↓reduceIte, Nat.reduceEqDiff] <;> rfl) (read_mt A2 (Nat.le_of_ble_eq_true rfl))) rfl rfl ?_
            refine o_cl rfl rfl (by simp only [evs, ev, envOf, val_set, ofValue, ofCell, ↓reduceIte, Nat.reduceEqDiff] <;> rfl) rfl (sums_fin ho W3 (op) (an) (bn)) rfl rfl ?_; rintro _ H59 ⟨rfl, X59⟩
            have W59 := X59.wf; have E59 := E3.trans X59
            have A1 := X59.keep _ _ A1
            have A2 := X59.keep _ _ A2
            have A3 := X59.keep _ _ A3
            have n59 := X59.n
            refine o_rd (r_extract (by simp only [ev, envOf, val_set, ofValue, ofCell, ↓reduceIte, Nat.reduceEqDiff] <;> rfl) rfl) rfl rfl ?_
            refine o_rd (r_extract (by simp only [ev, envOf, val_set, ofValue, ofCell, ↓reduceIte, Nat.reduceEqDiff] <;> rfl) rfl) rfl rfl ?_
            refine o_st W59 (by simp only [ev, envOf, val_set, ofValue, ofCell, ↓reduceIte, Nat.reduceEqDiff] <;> rfl) (by simp only [ev, envOf, val_set, ofValue, ofCell, ↓reduceIte, Nat.reduceEqDiff] <;> rfl) A3 Ty.csz24 rfl (Nat.le_of_ble_eq_true rfl) (by rfl) rfl rfl ?_; intro H60 n60 W60 A60 K60
            have A60 : H60.at H2.n = some (.row [.int .i64 ((sumsS (op) (an) (bn)).1), .int .i64 ((sumsS (op) (an) (bn)).2.1), .nils] 24 false none) := A60
            have E60 := Ext.put W0 E59 (by have := E59.n; omega) K60 n60 W60
            have A1 := K60.own A1 (by omega)
            have A2 := K60.own A2 (by omega)
            refine o_rd (r_assign (by simp only [ev, envOf, val_set, ofValue, ofCell, ↓reduceIte, Nat.reduceEqDiff] <;> rfl)) rfl rfl ?_
            refine o_nil ?_
            have hr61 : H60.read (.mt H2.n) 0 3 = some [.int .i64 ((sumsS (op) (an) (bn)).1), .int .i64 ((sumsS (op) (an) (bn)).2.1), .nils] := read_mt A60 (Nat.le_of_ble_eq_true rfl)
            refine w_ret ⟨.inr rfl, rfl, .tup [.agg [.int .i64 ((sumsS (op) (an) (bn)).1), .int .i64 ((sumsS (op) (an) (bn)).2.1), .nils], .int .i64 ((sumsS (op) (an) (bn)).2.2)], (show resultA Try.prog [.cell 6 24, .tmp 7] _ = _ by simp only [resultA, resultsA, envOf, val_set, ↓reduceIte, Nat.reduceEqDiff, Option.map_some, hr61, Ty.agg24, Ty.csz24] <;> rfl), ?_⟩
            refine ⟨?_, E60⟩; (try subst hc47); first | (simp [binS, outS, sumsS, hg4, hc47, hc50, hc54, hc58]; done) | (simp [binS, outS, hg4, hc47, hc50, hc54, hc58]; done) | (subst_vars; simp [binS, outS, sumsS, hg4, hc47, hc50, hc54, hc58]; done) | (exfalso; omega)
          · have hc58 := dec_f hc58
            refine w_skip ?_
            refine w_seq ?_
            refine w_region ?_
            refine o_rd (r_build (cs := [.int .i64 (0), .int .i64 (0), .nils]) Ty.zero24 Ty.pl24 (by simp only [evParts, ev, envOf, val_set, ofValue, ofCell, ↓reduceIte, Nat.reduceEqDiff] <;> rfl) rfl) rfl rfl ?_
            refine o_st W3 (by simp only [ev, envOf, val_set, ofValue, ofCell, ↓reduceIte, Nat.reduceEqDiff] <;> rfl) (by simp only [ev, envOf, val_set, ofValue, ofCell, ↓reduceIte, Nat.reduceEqDiff] <;> rfl) A3 Ty.csz24 rfl (Nat.le_of_ble_eq_true rfl) (by rfl) rfl rfl ?_; intro H62 n62 W62 A62 K62
            have A62 : H62.at H2.n = some (.row [.int .i64 (0), .int .i64 (0), .nils] 24 false none) := A62
            have E62 := Ext.put W0 E3 (by have := E3.n; omega) K62 n62 W62
            have A1 := K62.own A1 (by omega)
            have A2 := K62.own A2 (by omega)
            refine o_rd (r_assign (by simp only [ev, envOf, val_set, ofValue, ofCell, ↓reduceIte, Nat.reduceEqDiff] <;> rfl)) rfl rfl ?_
            refine o_nil ?_
            have hr63 : H62.read (.mt H2.n) 0 3 = some [.int .i64 (0), .int .i64 (0), .nils] := read_mt A62 (Nat.le_of_ble_eq_true rfl)
            refine w_ret ⟨.inr rfl, rfl, .tup [.agg [.int .i64 (0), .int .i64 (0), .nils], .int .i64 (5)], (show resultA Try.prog [.cell 6 24, .tmp 7] _ = _ by simp only [resultA, resultsA, envOf, val_set, ↓reduceIte, Nat.reduceEqDiff, Option.map_some, hr63, Ty.agg24, Ty.csz24] <;> rfl), ?_⟩
            refine ⟨?_, E62⟩; (try subst hc47); first | (simp [binS, outS, sumsS, hg4, hc47, hc50, hc54, hc58]; done) | (simp [binS, outS, hg4, hc47, hc50, hc54, hc58]; done) | (subst_vars; simp [binS, outS, sumsS, hg4, hc47, hc50, hc54, hc58]; done) | (exfalso; omega)
set_option maxRecDepth 100000 in
set_option maxHeartbeats 4000000 in
theorem binR_fin (ho : NoOrcBut [9] orc) {H0 : AH} (W0 : Wf H0) (op ak an bk bn : Int) (sa sb : AV) : Fin Try.prog orc 25 [.int .i64 (op), .agg [.int .i64 (ak), .int .i64 (an), sa], .agg [.int .i64 (bk), .int .i64 (bn), sb]] H0 (fun r H' => r = outS (binS op ak an bk bn) ∧ Ext H0 H') := by
  have E0 := Ext.refl W0
  refine fin_of Try.func25 rfl (by rw [Try.ntmps25]; simp) (ho _ rfl _ _) ?_
  rw [Try.ntmps25]
  refine w_seq ?_
  refine w_region ?_
  refine o_nw W0 (a_box (by simp only [ev, envOf, val_set, ofValue, ofCell, ↓reduceIte, Nat.reduceEqDiff] <;> rfl)) rfl rfl rfl (by simp) ?_; intro H1 n1 W1 X1 A1
  have A1 : H1.at H0.n = some (.row [.int .i64 (ak), .int .i64 (an), sa] 24 false none) := A1
  have E1 := E0.trans X1
  refine o_nw W1 (a_box (by simp only [ev, envOf, val_set, ofValue, ofCell, ↓reduceIte, Nat.reduceEqDiff] <;> rfl)) rfl rfl rfl (by simp) ?_; intro H2 n2 W2 X2 A2
  have A2 : H2.at H1.n = some (.row [.int .i64 (bk), .int .i64 (bn), sb] 24 false none) := A2
  have E2 := E1.trans X2
  have A1 := X2.keep _ _ A1
  refine o_nw W2 (a_alloc Ty.zero24) rfl rfl rfl (by simp) ?_; intro H3 n3 W3 X3 A3
  have A3 : H3.at H2.n = some (.row [.int .i64 (0), .int .i64 (0), .nils] 24 false none) := A3
  have E3 := E2.trans X3
  have A1 := X3.keep _ _ A1
  have A2 := X3.keep _ _ A2
  refine o_rd (r_assign (by simp only [ev, envOf, val_set, ofValue, ofCell, ↓reduceIte, Nat.reduceEqDiff] <;> rfl)) rfl rfl ?_
  refine o_nil ?_
  refine w_seq ?_
  refine w_seq ?_
  refine w_region ?_
  refine o_rd (r_fieldAddr Ty.fo24_0 (by simp only [ev, envOf, val_set, ofValue, ofCell, ↓reduceIte, Nat.reduceEqDiff] <;> rfl)) rfl rfl ?_
  refine o_rd (r_load1 (v := .int .i64 (ak)) Ty.agg3 (by simp only [ev, envOf, val_set, ofValue, ofCell, ↓reduceIte, Nat.reduceEqDiff] <;> rfl) (read_mt A1 (Nat.le_of_ble_eq_true rfl))) rfl rfl ?_
  refine o_rd (r_fieldAddr Ty.fo24_0 (by simp only [ev, envOf, val_set, ofValue, ofCell, ↓reduceIte, Nat.reduceEqDiff] <;> rfl)) rfl rfl ?_
  refine o_rd (r_load1 (v := .int .i64 (bk)) Ty.agg3 (by simp only [ev, envOf, val_set, ofValue, ofCell, ↓reduceIte, Nat.reduceEqDiff] <;> rfl) (read_mt A2 (Nat.le_of_ble_eq_true rfl))) rfl rfl ?_
  refine o_rd (r_ne (a := ak) (b := bk) (by simp only [ev, envOf, val_set, ofValue, ofCell, ↓reduceIte, Nat.reduceEqDiff] <;> rfl) (by simp only [ev, envOf, val_set, ofValue, ofCell, ↓reduceIte, Nat.reduceEqDiff] <;> rfl)) rfl rfl ?_
  refine o_nil ?_
  refine w_cond (by simp only [ev, envOf, val_set, ofValue, ofCell, ↓reduceIte, Nat.reduceEqDiff] <;> rfl) (fun hc4 => ?_) (fun hc4 => ?_)
  · have hc4 := dec_t hc4
    refine w_seq ?_
    refine w_region ?_
    refine o_rd (r_build (cs := [.int .i64 (0), .int .i64 (0), .nils]) Ty.zero24 Ty.pl24 (by simp only [evParts, ev, envOf, val_set, ofValue, ofCell, ↓reduceIte, Nat.reduceEqDiff] <;> rfl) rfl) rfl rfl ?_
    refine o_st W3 (by simp only [ev, envOf, val_set, ofValue, ofCell, ↓reduceIte, Nat.reduceEqDiff] <;> rfl) (by simp only [ev, envOf, val_set, ofValue, ofCell, ↓reduceIte, Nat.reduceEqDiff] <;> rfl) A3 Ty.csz24 rfl (Nat.le_of_ble_eq_true rfl) (by rfl) rfl rfl ?_; intro H5 n5 W5 A5 K5
    have A5 : H5.at H2.n = some (.row [.int .i64 (0), .int .i64 (0), .nils] 24 false none) := A5
    have E5 := Ext.put W0 E3 (by have := E3.n; omega) K5 n5 W5
    have A1 := K5.own A1 (by omega)
    have A2 := K5.own A2 (by omega)
    refine o_rd (r_assign (by simp only [ev, envOf, val_set, ofValue, ofCell, ↓reduceIte, Nat.reduceEqDiff] <;> rfl)) rfl rfl ?_
    refine o_nil ?_
    have hr6 : H5.read (.mt H2.n) 0 3 = some [.int .i64 (0), .int .i64 (0), .nils] := read_mt A5 (Nat.le_of_ble_eq_true rfl)
    refine w_ret ⟨.inr rfl, rfl, .tup [.agg [.int .i64 (0), .int .i64 (0), .nils], .int .i64 (5)], (show resultA Try.prog [.cell 6 24, .tmp 7] _ = _ by simp only [resultA, resultsA, envOf, val_set, ↓reduceIte, Nat.reduceEqDiff, Option.map_some, hr6, Ty.agg24, Ty.csz24] <;> rfl), ?_⟩
    refine ⟨?_, E5⟩; (try subst hc4); first | (simp [binS, outS, sumsS, hc4]; done) | (simp [binS, outS, hc4]; done) | (subst_vars; simp [binS, outS, sumsS, hc4]; done) | (exfalso; omega)
  · have hc4 := dec_fn hc4
    refine w_skip ?_
    refine w_seq ?_
    refine w_seq ?_
    refine w_region ?_
    refine o_rd (r_move (by simp only [ev, envOf, val_set, ofValue, ofCell, ↓reduceIte, Nat.reduceEqDiff] <;> rfl)) rfl rfl ?_
    refine o_rd (r_eq (a := op) (b := 21) (by simp only [ev, envOf, val_set, ofValue, ofCell, ↓reduceIte, Nat.reduceEqDiff] <;> rfl) (by simp only [ev, envOf, val_set, ofValue, ofCell, ↓reduceIte, Nat.reduceEqDiff] <;> rfl)) rfl rfl ?_
    refine o_rd (r_move (by simp only [ev, envOf, val_set, ofValue, ofCell, ↓reduceIte, Nat.reduceEqDiff] <;> rfl)) rfl rfl ?_
    cases hg7 : (decide (op = 21) : Bool)
    · have hg7 := dec_f hg7
      refine o_rd (r_move (by simp only [ev, envOf, val_set, ofValue, ofCell, ↓reduceIte, Nat.reduceEqDiff] <;> rfl)) rfl ((wanted_of (b := false) rfl rfl rfl (by simp only [val_set, ↓reduceIte, Nat.reduceEqDiff] <;> rfl)).trans rfl) ?_
      refine o_rd (r_eq (a := op) (b := 22) (by simp only [ev, envOf, val_set, ofValue, ofCell, ↓reduceIte, Nat.reduceEqDiff] <;> rfl) (by simp only [ev, envOf, val_set, ofValue, ofCell, ↓reduceIte, Nat.reduceEqDiff] <;> rfl)) rfl ((wanted_of (b := false) rfl rfl rfl (by simp only [val_set, ↓reduceIte, Nat.reduceEqDiff] <;> rfl)).trans rfl) ?_
      refine o_rd (r_pick (t := false) (by simp only [ev, envOf, val_set, ofValue, ofCell, ↓reduceIte, Nat.reduceEqDiff] <;> rfl) (fun h => by cases h) (fun _ => (by simp only [ev, envOf, val_set, ofValue, ofCell, ↓reduceIte, Nat.reduceEqDiff] <;> rfl))) rfl rfl ?_
      refine o_nil ?_
      refine w_cond (by simp only [ev, envOf, val_set, ofValue, ofCell, ↓reduceIte, Nat.reduceEqDiff] <;> rfl) (fun hc8 => ?_) (fun hc8 => ?_)
      · have hc8 := dec_t hc8
        refine w_seq ?_
        refine w_seq ?_
        refine w_region ?_
        refine o_rd (r_fieldAddr Ty.fo24_0 (by simp only [ev, envOf, val_set, ofValue, ofCell, ↓reduceIte, Nat.reduceEqDiff] <;> rfl)) rfl rfl ?_
        refine o_rd (r_load1 (v := .int .i64 (ak)) Ty.agg3 (by simp only [ev, envOf, val_set, ofValue, ofCell, ↓reduceIte, Nat.reduceEqDiff] <;> rfl) (read_mt A1 (Nat.le_of_ble_eq_true rfl))) rfl rfl ?_
        refine o_rd (r_ne (a := ak) (b := 1) (by simp only [ev, envOf, val_set, ofValue, ofCell, ↓reduceIte, Nat.reduceEqDiff] <;> rfl) (by simp only [ev, envOf, val_set, ofValue, ofCell, ↓reduceIte, Nat.reduceEqDiff] <;> rfl)) rfl rfl ?_
        refine o_rd (r_move (by simp only [ev, envOf, val_set, ofValue, ofCell, ↓reduceIte, Nat.reduceEqDiff] <;> rfl)) rfl rfl ?_
        cases hg9 : (decide (ak ≠ 1) : Bool)
        · have hg9 := dec_fn hg9
          refine o_sk rfl ((wanted_of (b := false) rfl rfl rfl (by simp only [val_set, ↓reduceIte, Nat.reduceEqDiff] <;> rfl)).trans rfl) ?_
          refine o_sk rfl ((wanted_of (b := false) rfl rfl rfl (by simp only [val_set, ↓reduceIte, Nat.reduceEqDiff] <;> rfl)).trans rfl) ?_
          refine o_sk rfl ((wanted_of (b := false) rfl rfl rfl (by simp only [val_set, ↓reduceIte, Nat.reduceEqDiff] <;> rfl)).trans rfl) ?_
          refine o_rd (r_pick (t := false) (by simp only [ev, envOf, val_set, ofValue, ofCell, ↓reduceIte, Nat.reduceEqDiff] <;> rfl) (fun h => by cases h) (fun _ => (by simp only [ev, envOf, val_set, ofValue, ofCell, ↓reduceIte, Nat.reduceEqDiff] <;> rfl))) rfl rfl ?_
          refine o_rd (r_move (by simp only [ev, envOf, val_set, ofValue, ofCell, ↓reduceIte, Nat.reduceEqDiff] <;> rfl)) rfl rfl ?_
          refine o_sk rfl ((wanted_of (b := false) rfl rfl rfl (by simp only [val_set, ↓reduceIte, Nat.reduceEqDiff] <;> rfl)).trans rfl) ?_
          refine o_sk rfl ((wanted_of (b := false) rfl rfl rfl (by simp only [val_set, ↓reduceIte, Nat.reduceEqDiff] <;> rfl)).trans rfl) ?_
          refine o_sk rfl ((wanted_of (b := false) rfl rfl rfl (by simp only [val_set, ↓reduceIte, Nat.reduceEqDiff] <;> rfl)).trans rfl) ?_
          refine o_rd (r_pick (t := false) (by simp only [ev, envOf, val_set, ofValue, ofCell, ↓reduceIte, Nat.reduceEqDiff] <;> rfl) (fun h => by cases h) (fun _ => (by simp only [ev, envOf, val_set, ofValue, ofCell, ↓reduceIte, Nat.reduceEqDiff] <;> rfl))) rfl rfl ?_
          refine o_nil ?_
          refine w_cond (t := false) (by simp only [ev, envOf, val_set, ofValue, ofCell, ↓reduceIte, Nat.reduceEqDiff] <;> rfl) (fun h => by cases h) (fun _ => ?_)
          refine w_skip ?_
          refine w_seq ?_
          refine w_region ?_
          refine o_rd (r_fieldAddr Ty.fo24_1 (by simp only [ev, envOf, val_set, ofValue, ofCell, ↓reduceIte, Nat.reduceEqDiff] <;> rfl)) rfl rfl ?_
          refine o_rd (r_load1 (v := .int .i64 (an)) Ty.agg3 (by simp only [ev, envOf, val_set, ofValue, ofCell, ↓reduceIte, Nat.reduceEqDiff] <;> rfl) (read_mt A1 (Nat.le_of_ble_eq_true rfl))) rfl rfl ?_
          refine o_rd (r_fieldAddr Ty.fo24_1 (by simp only [ev, envOf, val_set, ofValue, ofCell, ↓reduceIte, Nat.reduceEqDiff] <;> rfl)) rfl rfl ?_
          refine o_rd (r_load1 (v := .int .i64 (bn)) Ty.agg3 (by simp only [ev, envOf, val_set, ofValue, ofCell, ↓reduceIte, Nat.reduceEqDiff] <;> rfl) (read_mt A2 (Nat.le_of_ble_eq_true rfl))) rfl rfl ?_
          refine o_rd (r_eq (a := an) (b := bn) (by simp only [ev, envOf, val_set, ofValue, ofCell, ↓reduceIte, Nat.reduceEqDiff] <;> rfl) (by simp only [ev, envOf, val_set, ofValue, ofCell, ↓reduceIte, Nat.reduceEqDiff] <;> rfl)) rfl rfl ?_
          refine o_rd (r_move (by simp only [ev, envOf, val_set, ofValue, ofCell, ↓reduceIte, Nat.reduceEqDiff] <;> rfl)) rfl rfl ?_
          refine o_rd (r_eq (a := op) (b := 21) (by simp only [ev, envOf, val_set, ofValue, ofCell, ↓reduceIte, Nat.reduceEqDiff] <;> rfl) (by simp only [ev, envOf, val_set, ofValue, ofCell, ↓reduceIte, Nat.reduceEqDiff] <;> rfl)) rfl rfl ?_
          refine o_rd (r_eqB Try.underlying4 (by simp only [ev, envOf, val_set, ofValue, ofCell, ↓reduceIte, Nat.reduceEqDiff] <;> rfl) (by simp only [ev, envOf, val_set, ofValue, ofCell, ↓reduceIte, Nat.reduceEqDiff] <;> rfl)) rfl rfl ?_
          refine o_cl rfl rfl (by simp only [evs, ev, envOf, val_set, ofValue, ofCell, ↓reduceIte, Nat.reduceEqDiff] <;> rfl) rfl (truth_fin ho W3 ((decide (an = bn)) == (decide (op = 21)))) rfl rfl ?_; rintro _ H10 ⟨rfl, X10⟩
          have W10 := X10.wf; have E10 := E3.trans X10
          have A1 := X10.keep _ _ A1
          have A2 := X10.keep _ _ A2
          have A3 := X10.keep _ _ A3
          have n10 := X10.n
          refine o_st W10 (by simp only [ev, envOf, val_set, ofValue, ofCell, ↓reduceIte, Nat.reduceEqDiff] <;> rfl) (by simp only [ev, envOf, val_set, ofValue, ofCell, ↓reduceIte, Nat.reduceEqDiff] <;> rfl) A3 Ty.csz24 rfl (Nat.le_of_ble_eq_true rfl) (by rfl) rfl rfl ?_; intro H11 n11 W11 A11 K11
          have A11 : H11.at H2.n = some (.row [.int .i64 (2), .int .i64 (flagN ((decide (an = bn)) == (decide (op = 21)))), .nils] 24 false none) := A11
          have E11 := Ext.put W0 E10 (by have := E10.n; omega) K11 n11 W11
          have A1 := K11.own A1 (by omega)
          have A2 := K11.own A2 (by omega)
          refine o_rd (r_assign (by simp only [ev, envOf, val_set, ofValue, ofCell, ↓reduceIte, Nat.reduceEqDiff] <;> rfl)) rfl rfl ?_
          refine o_nil ?_
          have hr12 : H11.read (.mt H2.n) 0 3 = some [.int .i64 (2), .int .i64 (flagN ((decide (an = bn)) == (decide (op = 21)))), .nils] := read_mt A11 (Nat.le_of_ble_eq_true rfl)
          refine w_ret ⟨.inr rfl, rfl, .tup [.agg [.int .i64 (2), .int .i64 (flagN ((decide (an = bn)) == (decide (op = 21)))), .nils], .int .i64 (0)], (show resultA Try.prog [.cell 6 24, .tmp 7] _ = _ by simp only [resultA, resultsA, envOf, val_set, ↓reduceIte, Nat.reduceEqDiff, Option.map_some, hr12, Ty.agg24, Ty.csz24] <;> rfl), ?_⟩
          refine ⟨?_, E11⟩; (try subst hc4); (try subst hg9); first | (simp [binS, outS, sumsS, hc4, hg7, hc8, hg9]; done) | (simp [binS, outS, hc4, hg7, hc8, hg9]; done) | (subst_vars; simp [binS, outS, sumsS, hc4, hg7, hc8, hg9]; done) | (exfalso; omega)
        · have hg9 := dec_t hg9
          refine o_rd (r_fieldAddr Ty.fo24_0 (by simp only [ev, envOf, val_set, ofValue, ofCell, ↓reduceIte, Nat.reduceEqDiff] <;> rfl)) rfl ((wanted_of (b := true) rfl rfl rfl (by simp only [val_set, ↓reduceIte, Nat.reduceEqDiff] <;> rfl)).trans rfl) ?_
          refine o_rd (r_load1 (v := .int .i64 (ak)) Ty.agg3 (by simp only [ev, envOf, val_set, ofValue, ofCell, ↓reduceIte, Nat.reduceEqDiff] <;> rfl) (read_mt A1 (Nat.le_of_ble_eq_true rfl))) rfl ((wanted_of (b := true) rfl rfl rfl (by simp only [val_set, ↓reduceIte, Nat.reduceEqDiff] <;> rfl)).trans rfl) ?_
          refine o_rd (r_ne (a := ak) (b := 2) (by simp only [ev, envOf, val_set, ofValue, ofCell, ↓reduceIte, Nat.reduceEqDiff] <;> rfl) (by simp only [ev, envOf, val_set, ofValue, ofCell, ↓reduceIte, Nat.reduceEqDiff] <;> rfl)) rfl ((wanted_of (b := true) rfl rfl rfl (by simp only [val_set, ↓reduceIte, Nat.reduceEqDiff] <;> rfl)).trans rfl) ?_
          refine o_rd (r_pick (t := true) (by simp only [ev, envOf, val_set, ofValue, ofCell, ↓reduceIte, Nat.reduceEqDiff] <;> rfl) (fun _ => (by simp only [ev, envOf, val_set, ofValue, ofCell, ↓reduceIte, Nat.reduceEqDiff] <;> rfl)) (fun h => by cases h)) rfl rfl ?_
          refine o_rd (r_move (by simp only [ev, envOf, val_set, ofValue, ofCell, ↓reduceIte, Nat.reduceEqDiff] <;> rfl)) rfl rfl ?_
          cases hg13 : (decide (ak ≠ 2) : Bool)
          · have hg13 := dec_fn hg13
            refine o_sk rfl ((wanted_of (b := false) rfl rfl rfl (by simp only [val_set, ↓reduceIte, Nat.reduceEqDiff] <;> rfl)).trans rfl) ?_
            refine o_sk rfl ((wanted_of (b := false) rfl rfl rfl (by simp only [val_set, ↓reduceIte, Nat.reduceEqDiff] <;> rfl)).trans rfl) ?_
            refine o_sk rfl ((wanted_of (b := false) rfl rfl rfl (by simp only [val_set, ↓reduceIte, Nat.reduceEqDiff] <;> rfl)).trans rfl) ?_
            refine o_rd (r_pick (t := false) (by simp only [ev, envOf, val_set, ofValue, ofCell, ↓reduceIte, Nat.reduceEqDiff] <;> rfl) (fun h => by cases h) (fun _ => (by simp only [ev, envOf, val_set, ofValue, ofCell, ↓reduceIte, Nat.reduceEqDiff] <;> rfl))) rfl rfl ?_
            refine o_nil ?_
            refine w_cond (t := false) (by simp only [ev, envOf, val_set, ofValue, ofCell, ↓reduceIte, Nat.reduceEqDiff] <;> rfl) (fun h => by cases h) (fun _ => ?_)
            refine w_skip ?_
            refine w_seq ?_
            refine w_region ?_
            refine o_rd (r_fieldAddr Ty.fo24_1 (by simp only [ev, envOf, val_set, ofValue, ofCell, ↓reduceIte, Nat.reduceEqDiff] <;> rfl)) rfl rfl ?_
            refine o_rd (r_load1 (v := .int .i64 (an)) Ty.agg3 (by simp only [ev, envOf, val_set, ofValue, ofCell, ↓reduceIte, Nat.reduceEqDiff] <;> rfl) (read_mt A1 (Nat.le_of_ble_eq_true rfl))) rfl rfl ?_
            refine o_rd (r_fieldAddr Ty.fo24_1 (by simp only [ev, envOf, val_set, ofValue, ofCell, ↓reduceIte, Nat.reduceEqDiff] <;> rfl)) rfl rfl ?_
            refine o_rd (r_load1 (v := .int .i64 (bn)) Ty.agg3 (by simp only [ev, envOf, val_set, ofValue, ofCell, ↓reduceIte, Nat.reduceEqDiff] <;> rfl) (read_mt A2 (Nat.le_of_ble_eq_true rfl))) rfl rfl ?_
            refine o_rd (r_eq (a := an) (b := bn) (by simp only [ev, envOf, val_set, ofValue, ofCell, ↓reduceIte, Nat.reduceEqDiff] <;> rfl) (by simp only [ev, envOf, val_set, ofValue, ofCell, ↓reduceIte, Nat.reduceEqDiff] <;> rfl)) rfl rfl ?_
            refine o_rd (r_move (by simp only [ev, envOf, val_set, ofValue, ofCell, ↓reduceIte, Nat.reduceEqDiff] <;> rfl)) rfl rfl ?_
            refine o_rd (r_eq (a := op) (b := 21) (by simp only [ev, envOf, val_set, ofValue, ofCell, ↓reduceIte, Nat.reduceEqDiff] <;> rfl) (by simp only [ev, envOf, val_set, ofValue, ofCell, ↓reduceIte, Nat.reduceEqDiff] <;> rfl)) rfl rfl ?_
            refine o_rd (r_eqB Try.underlying4 (by simp only [ev, envOf, val_set, ofValue, ofCell, ↓reduceIte, Nat.reduceEqDiff] <;> rfl) (by simp only [ev, envOf, val_set, ofValue, ofCell, ↓reduceIte, Nat.reduceEqDiff] <;> rfl)) rfl rfl ?_
            refine o_cl rfl rfl (by simp only [evs, ev, envOf, val_set, ofValue, ofCell, ↓reduceIte, Nat.reduceEqDiff] <;> rfl) rfl (truth_fin ho W3 ((decide (an = bn)) == (decide (op = 21)))) rfl rfl ?_; rintro _ H14 ⟨rfl, X14⟩
            have W14 := X14.wf; have E14 := E3.trans X14
            have A1 := X14.keep _ _ A1
            have A2 := X14.keep _ _ A2
            have A3 := X14.keep _ _ A3
            have n14 := X14.n
            refine o_st W14 (by simp only [ev, envOf, val_set, ofValue, ofCell, ↓reduceIte, Nat.reduceEqDiff] <;> rfl) (by simp only [ev, envOf, val_set, ofValue, ofCell, ↓reduceIte, Nat.reduceEqDiff] <;> rfl) A3 Ty.csz24 rfl (Nat.le_of_ble_eq_true rfl) (by rfl) rfl rfl ?_; intro H15 n15 W15 A15 K15
            have A15 : H15.at H2.n = some (.row [.int .i64 (2), .int .i64 (flagN ((decide (an = bn)) == (decide (op = 21)))), .nils] 24 false none) := A15
            have E15 := Ext.put W0 E14 (by have := E14.n; omega) K15 n15 W15
            have A1 := K15.own A1 (by omega)
            have A2 := K15.own A2 (by omega)
            refine o_rd (r_assign (by simp only [ev, envOf, val_set, ofValue, ofCell, ↓reduceIte, Nat.reduceEqDiff] <;> rfl)) rfl rfl ?_
            refine o_nil ?_
            have hr16 : H15.read (.mt H2.n) 0 3 = some [.int .i64 (2), .int .i64 (flagN ((decide (an = bn)) == (decide (op = 21)))), .nils] := read_mt A15 (Nat.le_of_ble_eq_true rfl)
            refine w_ret ⟨.inr rfl, rfl, .tup [.agg [.int .i64 (2), .int .i64 (flagN ((decide (an = bn)) == (decide (op = 21)))), .nils], .int .i64 (0)], (show resultA Try.prog [.cell 6 24, .tmp 7] _ = _ by simp only [resultA, resultsA, envOf, val_set, ↓reduceIte, Nat.reduceEqDiff, Option.map_some, hr16, Ty.agg24, Ty.csz24] <;> rfl), ?_⟩
            refine ⟨?_, E15⟩; (try subst hc4); (try subst hg9); (try subst hg13); first | (simp [binS, outS, sumsS, hc4, hg7, hc8, hg9, hg13]; done) | (simp [binS, outS, hc4, hg7, hc8, hg9, hg13]; done) | (subst_vars; simp [binS, outS, sumsS, hc4, hg7, hc8, hg9, hg13]; done) | (exfalso; omega)
          · have hg13 := dec_t hg13
            refine o_rd (r_fieldAddr Ty.fo24_0 (by simp only [ev, envOf, val_set, ofValue, ofCell, ↓reduceIte, Nat.reduceEqDiff] <;> rfl)) rfl ((wanted_of (b := true) rfl rfl rfl (by simp only [val_set, ↓reduceIte, Nat.reduceEqDiff] <;> rfl)).trans rfl) ?_
            refine o_rd (r_load1 (v := .int .i64 (ak)) Ty.agg3 (by simp only [ev, envOf, val_set, ofValue, ofCell, ↓reduceIte, Nat.reduceEqDiff] <;> rfl) (read_mt A1 (Nat.le_of_ble_eq_true rfl))) rfl ((wanted_of (b := true) rfl rfl rfl (by simp only [val_set, ↓reduceIte, Nat.reduceEqDiff] <;> rfl)).trans rfl) ?_
            refine o_rd (r_ne (a := ak) (b := 5) (by simp only [ev, envOf, val_set, ofValue, ofCell, ↓reduceIte, Nat.reduceEqDiff] <;> rfl) (by simp only [ev, envOf, val_set, ofValue, ofCell, ↓reduceIte, Nat.reduceEqDiff] <;> rfl)) rfl ((wanted_of (b := true) rfl rfl rfl (by simp only [val_set, ↓reduceIte, Nat.reduceEqDiff] <;> rfl)).trans rfl) ?_
            refine o_rd (r_pick (t := true) (by simp only [ev, envOf, val_set, ofValue, ofCell, ↓reduceIte, Nat.reduceEqDiff] <;> rfl) (fun _ => (by simp only [ev, envOf, val_set, ofValue, ofCell, ↓reduceIte, Nat.reduceEqDiff] <;> rfl)) (fun h => by cases h)) rfl rfl ?_
            refine o_nil ?_
            refine w_cond (by simp only [ev, envOf, val_set, ofValue, ofCell, ↓reduceIte, Nat.reduceEqDiff] <;> rfl) (fun hc17 => ?_) (fun hc17 => ?_)
            · have hc17 := dec_t hc17
              refine w_seq ?_
              refine w_region ?_
              refine o_rd (r_build (cs := [.int .i64 (0), .int .i64 (0), .nils]) Ty.zero24 Ty.pl24 (by simp only [evParts, ev, envOf, val_set, ofValue, ofCell, ↓reduceIte, Nat.reduceEqDiff] <;> rfl) rfl) rfl rfl ?_
              refine o_st W3 (by simp only [ev, envOf, val_set, ofValue, ofCell, ↓reduceIte, Nat.reduceEqDiff] <;> rfl) (by simp only [ev, envOf, val_set, ofValue, ofCell, ↓reduceIte, Nat.reduceEqDiff] <;> rfl) A3 Ty.csz24 rfl (Nat.le_of_ble_eq_true rfl) (by rfl) rfl rfl ?_; intro H18 n18 W18 A18 K18
              have A18 : H18.at H2.n = some (.row [.int .i64 (0), .int .i64 (0), .nils] 24 false none) := A18
              have E18 := Ext.put W0 E3 (by have := E3.n; omega) K18 n18 W18
              have A1 := K18.own A1 (by omega)
              have A2 := K18.own A2 (by omega)
              refine o_rd (r_assign (by simp only [ev, envOf, val_set, ofValue, ofCell, ↓reduceIte, Nat.reduceEqDiff] <;> rfl)) rfl rfl ?_
              refine o_nil ?_
              have hr19 : H18.read (.mt H2.n) 0 3 = some [.int .i64 (0), .int .i64 (0), .nils] := read_mt A18 (Nat.le_of_ble_eq_true rfl)
              refine w_ret ⟨.inr rfl, rfl, .tup [.agg [.int .i64 (0), .int .i64 (0), .nils], .int .i64 (5)], (show resultA Try.prog [.cell 6 24, .tmp 7] _ = _ by simp only [resultA, resultsA, envOf, val_set, ↓reduceIte, Nat.reduceEqDiff, Option.map_some, hr19, Ty.agg24, Ty.csz24] <;> rfl), ?_⟩
              refine ⟨?_, E18⟩; (try subst hc4); (try subst hg9); (try subst hg13); (try subst hc17); first | (simp [binS, outS, sumsS, hc4, hg7, hc8, hg9, hg13, hc17]; done) | (simp [binS, outS, hc4, hg7, hc8, hg9, hg13, hc17]; done) | (subst_vars; simp [binS, outS, sumsS, hc4, hg7, hc8, hg9, hg13, hc17]; done) | (exfalso; omega)
            · have hc17 := dec_fn hc17
              refine w_skip ?_
              refine w_seq ?_
              refine w_region ?_
              refine o_rd (r_fieldAddr Ty.fo24_1 (by simp only [ev, envOf, val_set, ofValue, ofCell, ↓reduceIte, Nat.reduceEqDiff] <;> rfl)) rfl rfl ?_
              refine o_rd (r_load1 (v := .int .i64 (an)) Ty.agg3 (by simp only [ev, envOf, val_set, ofValue, ofCell, ↓reduceIte, Nat.reduceEqDiff] <;> rfl) (read_mt A1 (Nat.le_of_ble_eq_true rfl))) rfl rfl ?_
              refine o_rd (r_fieldAddr Ty.fo24_1 (by simp only [ev, envOf, val_set, ofValue, ofCell, ↓reduceIte, Nat.reduceEqDiff] <;> rfl)) rfl rfl ?_
              refine o_rd (r_load1 (v := .int .i64 (bn)) Ty.agg3 (by simp only [ev, envOf, val_set, ofValue, ofCell, ↓reduceIte, Nat.reduceEqDiff] <;> rfl) (read_mt A2 (Nat.le_of_ble_eq_true rfl))) rfl rfl ?_
              refine o_rd (r_eq (a := an) (b := bn) (by simp only [ev, envOf, val_set, ofValue, ofCell, ↓reduceIte, Nat.reduceEqDiff] <;> rfl) (by simp only [ev, envOf, val_set, ofValue, ofCell, ↓reduceIte, Nat.reduceEqDiff] <;> rfl)) rfl rfl ?_
              refine o_rd (r_move (by simp only [ev, envOf, val_set, ofValue, ofCell, ↓reduceIte, Nat.reduceEqDiff] <;> rfl)) rfl rfl ?_
              refine o_rd (r_eq (a := op) (b := 21) (by simp only [ev, envOf, val_set, ofValue, ofCell, ↓reduceIte, Nat.reduceEqDiff] <;> rfl) (by simp only [ev, envOf, val_set, ofValue, ofCell, ↓reduceIte, Nat.reduceEqDiff] <;> rfl)) rfl rfl ?_
              refine o_rd (r_eqB Try.underlying4 (by simp only [ev, envOf, val_set, ofValue, ofCell, ↓reduceIte, Nat.reduceEqDiff] <;> rfl) (by simp only [ev, envOf, val_set, ofValue, ofCell, ↓reduceIte, Nat.reduceEqDiff] <;> rfl)) rfl rfl ?_
              refine o_cl rfl rfl (by simp only [evs, ev, envOf, val_set, ofValue, ofCell, ↓reduceIte, Nat.reduceEqDiff] <;> rfl) rfl (truth_fin ho W3 ((decide (an = bn)) == (decide (op = 21)))) rfl rfl ?_; rintro _ H20 ⟨rfl, X20⟩
              have W20 := X20.wf; have E20 := E3.trans X20
              have A1 := X20.keep _ _ A1
              have A2 := X20.keep _ _ A2
              have A3 := X20.keep _ _ A3
              have n20 := X20.n
              refine o_st W20 (by simp only [ev, envOf, val_set, ofValue, ofCell, ↓reduceIte, Nat.reduceEqDiff] <;> rfl) (by simp only [ev, envOf, val_set, ofValue, ofCell, ↓reduceIte, Nat.reduceEqDiff] <;> rfl) A3 Ty.csz24 rfl (Nat.le_of_ble_eq_true rfl) (by rfl) rfl rfl ?_; intro H21 n21 W21 A21 K21
              have A21 : H21.at H2.n = some (.row [.int .i64 (2), .int .i64 (flagN ((decide (an = bn)) == (decide (op = 21)))), .nils] 24 false none) := A21
              have E21 := Ext.put W0 E20 (by have := E20.n; omega) K21 n21 W21
              have A1 := K21.own A1 (by omega)
              have A2 := K21.own A2 (by omega)
              refine o_rd (r_assign (by simp only [ev, envOf, val_set, ofValue, ofCell, ↓reduceIte, Nat.reduceEqDiff] <;> rfl)) rfl rfl ?_
              refine o_nil ?_
              have hr22 : H21.read (.mt H2.n) 0 3 = some [.int .i64 (2), .int .i64 (flagN ((decide (an = bn)) == (decide (op = 21)))), .nils] := read_mt A21 (Nat.le_of_ble_eq_true rfl)
              refine w_ret ⟨.inr rfl, rfl, .tup [.agg [.int .i64 (2), .int .i64 (flagN ((decide (an = bn)) == (decide (op = 21)))), .nils], .int .i64 (0)], (show resultA Try.prog [.cell 6 24, .tmp 7] _ = _ by simp only [resultA, resultsA, envOf, val_set, ↓reduceIte, Nat.reduceEqDiff, Option.map_some, hr22, Ty.agg24, Ty.csz24] <;> rfl), ?_⟩
              refine ⟨?_, E21⟩; (try subst hc4); (try subst hg9); (try subst hg13); (try subst hc17); first | (simp [binS, outS, sumsS, hc4, hg7, hc8, hg9, hg13, hc17]; done) | (simp [binS, outS, hc4, hg7, hc8, hg9, hg13, hc17]; done) | (subst_vars; simp [binS, outS, sumsS, hc4, hg7, hc8, hg9, hg13, hc17]; done) | (exfalso; omega)
      · have hc8 := dec_f hc8
        refine w_skip ?_
        refine w_seq ?_
        refine w_seq ?_
        refine w_region ?_
        refine o_rd (r_fieldAddr Ty.fo24_0 (by simp only [ev, envOf, val_set, ofValue, ofCell, ↓reduceIte, Nat.reduceEqDiff] <;> rfl)) rfl rfl ?_
        refine o_rd (r_load1 (v := .int .i64 (ak)) Ty.agg3 (by simp only [ev, envOf, val_set, ofValue, ofCell, ↓reduceIte, Nat.reduceEqDiff] <;> rfl) (read_mt A1 (Nat.le_of_ble_eq_true rfl))) rfl rfl ?_
        refine o_rd (r_ne (a := ak) (b := 1) (by simp only [ev, envOf, val_set, ofValue, ofCell, ↓reduceIte, Nat.reduceEqDiff] <;> rfl) (by simp only [ev, envOf, val_set, ofValue, ofCell, ↓reduceIte, Nat.reduceEqDiff] <;> rfl)) rfl rfl ?_
        refine o_nil ?_
        refine w_cond (by simp only [ev, envOf, val_set, ofValue, ofCell, ↓reduceIte, Nat.reduceEqDiff] <;> rfl) (fun hc23 => ?_) (fun hc23 => ?_)
        · have hc23 := dec_t hc23
          refine w_seq ?_
          refine w_region ?_
          refine o_rd (r_build (cs := [.int .i64 (0), .int .i64 (0), .nils]) Ty.zero24 Ty.pl24 (by simp only [evParts, ev, envOf, val_set, ofValue, ofCell, ↓reduceIte, Nat.reduceEqDiff] <;> rfl) rfl) rfl rfl ?_
          refine o_st W3 (by simp only [ev, envOf, val_set, ofValue, ofCell, ↓reduceIte, Nat.reduceEqDiff] <;> rfl) (by simp only [ev, envOf, val_set, ofValue, ofCell, ↓reduceIte, Nat.reduceEqDiff] <;> rfl) A3 Ty.csz24 rfl (Nat.le_of_ble_eq_true rfl) (by rfl) rfl rfl ?_; intro H24 n24 W24 A24 K24
          have A24 : H24.at H2.n = some (.row [.int .i64 (0), .int .i64 (0), .nils] 24 false none) := A24
          have E24 := Ext.put W0 E3 (by have := E3.n; omega) K24 n24 W24
          have A1 := K24.own A1 (by omega)
          have A2 := K24.own A2 (by omega)
          refine o_rd (r_assign (by simp only [ev, envOf, val_set, ofValue, ofCell, ↓reduceIte, Nat.reduceEqDiff] <;> rfl)) rfl rfl ?_
          refine o_nil ?_
          have hr25 : H24.read (.mt H2.n) 0 3 = some [.int .i64 (0), .int .i64 (0), .nils] := read_mt A24 (Nat.le_of_ble_eq_true rfl)
          refine w_ret ⟨.inr rfl, rfl, .tup [.agg [.int .i64 (0), .int .i64 (0), .nils], .int .i64 (5)], (show resultA Try.prog [.cell 6 24, .tmp 7] _ = _ by simp only [resultA, resultsA, envOf, val_set, ↓reduceIte, Nat.reduceEqDiff, Option.map_some, hr25, Ty.agg24, Ty.csz24] <;> rfl), ?_⟩
          refine ⟨?_, E24⟩; (try subst hc4); (try subst hc23); first | (simp [binS, outS, sumsS, hc4, hg7, hc8, hc23]; done) | (simp [binS, outS, hc4, hg7, hc8, hc23]; done) | (subst_vars; simp [binS, outS, sumsS, hc4, hg7, hc8, hc23]; done) | (exfalso; omega)
        · have hc23 := dec_fn hc23
          refine w_skip ?_
          refine w_seq ?_
          refine w_region ?_
          refine o_rd (r_fieldAddr Ty.fo24_1 (by simp only [ev, envOf, val_set, ofValue, ofCell, ↓reduceIte, Nat.reduceEqDiff] <;> rfl)) rfl rfl ?_
          refine o_rd (r_load1 (v := .int .i64 (an)) Ty.agg3 (by simp only [ev, envOf, val_set, ofValue, ofCell, ↓reduceIte, Nat.reduceEqDiff] <;> rfl) (read_mt A1 (Nat.le_of_ble_eq_true rfl))) rfl rfl ?_
          refine o_rd (r_assign (by simp only [ev, envOf, val_set, ofValue, ofCell, ↓reduceIte, Nat.reduceEqDiff] <;> rfl)) rfl rfl ?_
          refine o_nil ?_
          refine w_seq ?_
          refine w_region ?_
          refine o_rd (r_fieldAddr Ty.fo24_1 (by simp only [ev, envOf, val_set, ofValue, ofCell, ↓reduceIte, Nat.reduceEqDiff] <;> rfl)) rfl rfl ?_
          refine o_rd (r_load1 (v := .int .i64 (bn)) Ty.agg3 (by simp only [ev, envOf, val_set, ofValue, ofCell, ↓reduceIte, Nat.reduceEqDiff] <;> rfl) (read_mt A2 (Nat.le_of_ble_eq_true rfl))) rfl rfl ?_
          refine o_rd (r_assign (by simp only [ev, envOf, val_set, ofValue, ofCell, ↓reduceIte, Nat.reduceEqDiff] <;> rfl)) rfl rfl ?_
          refine o_nil ?_
          refine w_seq ?_
          refine w_seq ?_
          refine w_region ?_
          refine o_rd (r_move (by simp only [ev, envOf, val_set, ofValue, ofCell, ↓reduceIte, Nat.reduceEqDiff] <;> rfl)) rfl rfl ?_
          refine o_nil ?_
          refine w_block ?_
          refine w_seq ?_
          refine w_region ?_
          refine o_rd (r_eq (a := op) (b := 31) (by simp only [ev, envOf, val_set, ofValue, ofCell, ↓reduceIte, Nat.reduceEqDiff] <;> rfl) (by simp only [ev, envOf, val_set, ofValue, ofCell, ↓reduceIte, Nat.reduceEqDiff] <;> rfl)) rfl rfl ?_
          refine o_rd (r_assign (by simp only [ev, envOf, val_set, ofValue, ofCell, ↓reduceIte, Nat.reduceEqDiff] <;> rfl)) rfl rfl ?_
          refine o_nil ?_
          refine w_cond (by simp only [ev, envOf, val_set, ofValue, ofCell, ↓reduceIte, Nat.reduceEqDiff] <;> rfl) (fun hc26 => ?_) (fun hc26 => ?_)
          · have hc26 := dec_t hc26
            refine w_seq ?_
            refine w_region ?_
            refine o_rd (r_move (by simp only [ev, envOf, val_set, ofValue, ofCell, ↓reduceIte, Nat.reduceEqDiff] <;> rfl)) rfl rfl ?_
            refine o_rd (r_move (by simp only [ev, envOf, val_set, ofValue, ofCell, ↓reduceIte, Nat.reduceEqDiff] <;> rfl)) rfl rfl ?_
            refine o_rd (r_addW (a := an) (b := bn) (by simp only [ev, envOf, val_set, ofValue, ofCell, ↓reduceIte, Nat.reduceEqDiff] <;> rfl) (by simp only [ev, envOf, val_set, ofValue, ofCell, ↓reduceIte, Nat.reduceEqDiff] <;> rfl)) rfl rfl ?_
            refine o_cl rfl rfl (by simp only [evs, ev, envOf, val_set, ofValue, ofCell, ↓reduceIte, Nat.reduceEqDiff] <;> rfl) rfl (number_fin ho W3 (wrapA .i64 (an + bn))) rfl rfl ?_; rintro _ H27 ⟨rfl, X27⟩
            have W27 := X27.wf; have E27 := E3.trans X27
            have A1 := X27.keep _ _ A1
            have A2 := X27.keep _ _ A2
            have A3 := X27.keep _ _ A3
            have n27 := X27.n
            refine o_st W27 (by simp only [ev, envOf, val_set, ofValue, ofCell, ↓reduceIte, Nat.reduceEqDiff] <;> rfl) (by simp only [ev, envOf, val_set, ofValue, ofCell, ↓reduceIte, Nat.reduceEqDiff] <;> rfl) A3 Ty.csz24 rfl (Nat.le_of_ble_eq_true rfl) (by rfl) rfl rfl ?_; intro H28 n28 W28 A28 K28
            have A28 : H28.at H2.n = some (.row [.int .i64 (1), .int .i64 (wrapA .i64 (an + bn)), .nils] 24 false none) := A28
            have E28 := Ext.put W0 E27 (by have := E27.n; omega) K28 n28 W28
            have A1 := K28.own A1 (by omega)
            have A2 := K28.own A2 (by omega)
            refine o_rd (r_assign (by simp only [ev, envOf, val_set, ofValue, ofCell, ↓reduceIte, Nat.reduceEqDiff] <;> rfl)) rfl rfl ?_
            refine o_nil ?_
            have hr29 : H28.read (.mt H2.n) 0 3 = some [.int .i64 (1), .int .i64 (wrapA .i64 (an + bn)), .nils] := read_mt A28 (Nat.le_of_ble_eq_true rfl)
            refine w_ret ⟨.inr rfl, rfl, .tup [.agg [.int .i64 (1), .int .i64 (wrapA .i64 (an + bn)), .nils], .int .i64 (0)], (show resultA Try.prog [.cell 6 24, .tmp 7] _ = _ by simp only [resultA, resultsA, envOf, val_set, ↓reduceIte, Nat.reduceEqDiff, Option.map_some, hr29, Ty.agg24, Ty.csz24] <;> rfl), ?_⟩
            refine ⟨?_, E28⟩; (try subst hc4); (try subst hc23); first | (simp [binS, outS, sumsS, hc4, hg7, hc8, hc23, hc26]; done) | (simp [binS, outS, hc4, hg7, hc8, hc23, hc26]; done) | (subst_vars; simp [binS, outS, sumsS, hc4, hg7, hc8, hc23, hc26]; done) | (exfalso; omega)
          · have hc26 := dec_f hc26
            refine w_seq ?_
            refine w_region ?_
            refine o_rd (r_eq (a := op) (b := 32) (by simp only [ev, envOf, val_set, ofValue, ofCell, ↓reduceIte, Nat.reduceEqDiff] <;> rfl) (by simp only [ev, envOf, val_set, ofValue, ofCell, ↓reduceIte, Nat.reduceEqDiff] <;> rfl)) rfl rfl ?_
            refine o_rd (r_assign (by simp only [ev, envOf, val_set, ofValue, ofCell, ↓reduceIte, Nat.reduceEqDiff] <;> rfl)) rfl rfl ?_
            refine o_nil ?_
            refine w_cond (by simp only [ev, envOf, val_set, ofValue, ofCell, ↓reduceIte, Nat.reduceEqDiff] <;> rfl) (fun hc30 => ?_) (fun hc30 => ?_)
            · have hc30 := dec_t hc30
              refine w_seq ?_
              refine w_region ?_
              refine o_rd (r_move (by simp only [ev, envOf, val_set, ofValue, ofCell, ↓reduceIte, Nat.reduceEqDiff] <;> rfl)) rfl rfl ?_
              refine o_rd (r_move (by simp only [ev, envOf, val_set, ofValue, ofCell, ↓reduceIte, Nat.reduceEqDiff] <;> rfl)) rfl rfl ?_
              refine o_rd (r_subW (a := an) (b := bn) (by simp only [ev, envOf, val_set, ofValue, ofCell, ↓reduceIte, Nat.reduceEqDiff] <;> rfl) (by simp only [ev, envOf, val_set, ofValue, ofCell, ↓reduceIte, Nat.reduceEqDiff] <;> rfl)) rfl rfl ?_
              refine o_cl rfl rfl (by simp only [evs, ev, envOf, val_set, ofValue, ofCell, ↓reduceIte, Nat.reduceEqDiff] <;> rfl) rfl (number_fin ho W3 (wrapA .i64 (an - bn))) rfl rfl ?_; rintro _ H31 ⟨rfl, X31⟩
              have W31 := X31.wf; have E31 := E3.trans X31
              have A1 := X31.keep _ _ A1
              have A2 := X31.keep _ _ A2
              have A3 := X31.keep _ _ A3
              have n31 := X31.n
              refine o_st W31 (by simp only [ev, envOf, val_set, ofValue, ofCell, ↓reduceIte, Nat.reduceEqDiff] <;> rfl) (by simp only [ev, envOf, val_set, ofValue, ofCell, ↓reduceIte, Nat.reduceEqDiff] <;> rfl) A3 Ty.csz24 rfl (Nat.le_of_ble_eq_true rfl) (by rfl) rfl rfl ?_; intro H32 n32 W32 A32 K32
              have A32 : H32.at H2.n = some (.row [.int .i64 (1), .int .i64 (wrapA .i64 (an - bn)), .nils] 24 false none) := A32
              have E32 := Ext.put W0 E31 (by have := E31.n; omega) K32 n32 W32
              have A1 := K32.own A1 (by omega)
              have A2 := K32.own A2 (by omega)
              refine o_rd (r_assign (by simp only [ev, envOf, val_set, ofValue, ofCell, ↓reduceIte, Nat.reduceEqDiff] <;> rfl)) rfl rfl ?_
              refine o_nil ?_
              have hr33 : H32.read (.mt H2.n) 0 3 = some [.int .i64 (1), .int .i64 (wrapA .i64 (an - bn)), .nils] := read_mt A32 (Nat.le_of_ble_eq_true rfl)
              refine w_ret ⟨.inr rfl, rfl, .tup [.agg [.int .i64 (1), .int .i64 (wrapA .i64 (an - bn)), .nils], .int .i64 (0)], (show resultA Try.prog [.cell 6 24, .tmp 7] _ = _ by simp only [resultA, resultsA, envOf, val_set, ↓reduceIte, Nat.reduceEqDiff, Option.map_some, hr33, Ty.agg24, Ty.csz24] <;> rfl), ?_⟩
              refine ⟨?_, E32⟩; (try subst hc4); (try subst hc23); first | (simp [binS, outS, sumsS, hc4, hg7, hc8, hc23, hc26, hc30]; done) | (simp [binS, outS, hc4, hg7, hc8, hc23, hc26, hc30]; done) | (subst_vars; simp [binS, outS, sumsS, hc4, hg7, hc8, hc23, hc26, hc30]; done) | (exfalso; omega)
            · have hc30 := dec_f hc30
              refine w_seq ?_
              refine w_region ?_
              refine o_rd (r_eq (a := op) (b := 41) (by simp only [ev, envOf, val_set, ofValue, ofCell, ↓reduceIte, Nat.reduceEqDiff] <;> rfl) (by simp only [ev, envOf, val_set, ofValue, ofCell, ↓reduceIte, Nat.reduceEqDiff] <;> rfl)) rfl rfl ?_
              refine o_rd (r_assign (by simp only [ev, envOf, val_set, ofValue, ofCell, ↓reduceIte, Nat.reduceEqDiff] <;> rfl)) rfl rfl ?_
              refine o_nil ?_
              refine w_cond (by simp only [ev, envOf, val_set, ofValue, ofCell, ↓reduceIte, Nat.reduceEqDiff] <;> rfl) (fun hc34 => ?_) (fun hc34 => ?_)
              · have hc34 := dec_t hc34
                refine w_seq ?_
                refine w_region ?_
                refine o_rd (r_move (by simp only [ev, envOf, val_set, ofValue, ofCell, ↓reduceIte, Nat.reduceEqDiff] <;> rfl)) rfl rfl ?_
                refine o_rd (r_move (by simp only [ev, envOf, val_set, ofValue, ofCell, ↓reduceIte, Nat.reduceEqDiff] <;> rfl)) rfl rfl ?_
                refine o_rd (r_mulW (a := an) (b := bn) (by simp only [ev, envOf, val_set, ofValue, ofCell, ↓reduceIte, Nat.reduceEqDiff] <;> rfl) (by simp only [ev, envOf, val_set, ofValue, ofCell, ↓reduceIte, Nat.reduceEqDiff] <;> rfl)) rfl rfl ?_
                refine o_cl rfl rfl (by simp only [evs, ev, envOf, val_set, ofValue, ofCell, ↓reduceIte, Nat.reduceEqDiff] <;> rfl) rfl (number_fin ho W3 (wrapA .i64 (an * bn))) rfl rfl ?_; rintro _ H35 ⟨rfl, X35⟩
                have W35 := X35.wf; have E35 := E3.trans X35
                have A1 := X35.keep _ _ A1
                have A2 := X35.keep _ _ A2
                have A3 := X35.keep _ _ A3
                have n35 := X35.n
                refine o_st W35 (by simp only [ev, envOf, val_set, ofValue, ofCell, ↓reduceIte, Nat.reduceEqDiff] <;> rfl) (by simp only [ev, envOf, val_set, ofValue, ofCell, ↓reduceIte, Nat.reduceEqDiff] <;> rfl) A3 Ty.csz24 rfl (Nat.le_of_ble_eq_true rfl) (by rfl) rfl rfl ?_; intro H36 n36 W36 A36 K36
                have A36 : H36.at H2.n = some (.row [.int .i64 (1), .int .i64 (wrapA .i64 (an * bn)), .nils] 24 false none) := A36
                have E36 := Ext.put W0 E35 (by have := E35.n; omega) K36 n36 W36
                have A1 := K36.own A1 (by omega)
                have A2 := K36.own A2 (by omega)
                refine o_rd (r_assign (by simp only [ev, envOf, val_set, ofValue, ofCell, ↓reduceIte, Nat.reduceEqDiff] <;> rfl)) rfl rfl ?_
                refine o_nil ?_
                have hr37 : H36.read (.mt H2.n) 0 3 = some [.int .i64 (1), .int .i64 (wrapA .i64 (an * bn)), .nils] := read_mt A36 (Nat.le_of_ble_eq_true rfl)
                refine w_ret ⟨.inr rfl, rfl, .tup [.agg [.int .i64 (1), .int .i64 (wrapA .i64 (an * bn)), .nils], .int .i64 (0)], (show resultA Try.prog [.cell 6 24, .tmp 7] _ = _ by simp only [resultA, resultsA, envOf, val_set, ↓reduceIte, Nat.reduceEqDiff, Option.map_some, hr37, Ty.agg24, Ty.csz24] <;> rfl), ?_⟩
                refine ⟨?_, E36⟩; (try subst hc4); (try subst hc23); first | (simp [binS, outS, sumsS, hc4, hg7, hc8, hc23, hc26, hc30, hc34]; done) | (simp [binS, outS, hc4, hg7, hc8, hc23, hc26, hc30, hc34]; done) | (subst_vars; simp [binS, outS, sumsS, hc4, hg7, hc8, hc23, hc26, hc30, hc34]; done) | (exfalso; omega)
              · have hc34 := dec_f hc34
                refine w_seq ?_
                refine w_region ?_
                refine o_rd (r_eq (a := op) (b := 23) (by simp only [ev, envOf, val_set, ofValue, ofCell, ↓reduceIte, Nat.reduceEqDiff] <;> rfl) (by simp only [ev, envOf, val_set, ofValue, ofCell, ↓reduceIte, Nat.reduceEqDiff] <;> rfl)) rfl rfl ?_
                refine o_rd (r_assign (by simp only [ev, envOf, val_set, ofValue, ofCell, ↓reduceIte, Nat.reduceEqDiff] <;> rfl)) rfl rfl ?_
                refine o_nil ?_
                refine w_cond (by simp only [ev, envOf, val_set, ofValue, ofCell, ↓reduceIte, Nat.reduceEqDiff] <;> rfl) (fun hc38 => ?_) (fun hc38 => ?_)
                · have hc38 := dec_t hc38
                  refine w_seq ?_
                  refine w_region ?_
                  refine o_rd (r_move (by simp only [ev, envOf, val_set, ofValue, ofCell, ↓reduceIte, Nat.reduceEqDiff] <;> rfl)) rfl rfl ?_
                  refine o_rd (r_move (by simp only [ev, envOf, val_set, ofValue, ofCell, ↓reduceIte, Nat.reduceEqDiff] <;> rfl)) rfl rfl ?_
                  refine o_rd (r_lt (a := an) (b := bn) (by simp only [ev, envOf, val_set, ofValue, ofCell, ↓reduceIte, Nat.reduceEqDiff] <;> rfl) (by simp only [ev, envOf, val_set, ofValue, ofCell, ↓reduceIte, Nat.reduceEqDiff] <;> rfl)) rfl rfl ?_
                  refine o_cl rfl rfl (by simp only [evs, ev, envOf, val_set, ofValue, ofCell, ↓reduceIte, Nat.reduceEqDiff] <;> rfl) rfl (truth_fin ho W3 (decide (an < bn))) rfl rfl ?_; rintro _ H39 ⟨rfl, X39⟩
                  have W39 := X39.wf; have E39 := E3.trans X39
                  have A1 := X39.keep _ _ A1
                  have A2 := X39.keep _ _ A2
                  have A3 := X39.keep _ _ A3
                  have n39 := X39.n
                  refine o_st W39 (by simp only [ev, envOf, val_set, ofValue, ofCell, ↓reduceIte, Nat.reduceEqDiff] <;> rfl) (by simp only [ev, envOf, val_set, ofValue, ofCell, ↓reduceIte, Nat.reduceEqDiff] <;> rfl) A3 Ty.csz24 rfl (Nat.le_of_ble_eq_true rfl) (by rfl) rfl rfl ?_; intro H40 n40 W40 A40 K40
                  have A40 : H40.at H2.n = some (.row [.int .i64 (2), .int .i64 (flagN (decide (an < bn))), .nils] 24 false none) := A40
                  have E40 := Ext.put W0 E39 (by have := E39.n; omega) K40 n40 W40
                  have A1 := K40.own A1 (by omega)
                  have A2 := K40.own A2 (by omega)
                  refine o_rd (r_assign (by simp only [ev, envOf, val_set, ofValue, ofCell, ↓reduceIte, Nat.reduceEqDiff] <;> rfl)) rfl rfl ?_
                  refine o_nil ?_
                  have hr41 : H40.read (.mt H2.n) 0 3 = some [.int .i64 (2), .int .i64 (flagN (decide (an < bn))), .nils] := read_mt A40 (Nat.le_of_ble_eq_true rfl)
                  refine w_ret ⟨.inr rfl, rfl, .tup [.agg [.int .i64 (2), .int .i64 (flagN (decide (an < bn))), .nils], .int .i64 (0)], (show resultA Try.prog [.cell 6 24, .tmp 7] _ = _ by simp only [resultA, resultsA, envOf, val_set, ↓reduceIte, Nat.reduceEqDiff, Option.map_some, hr41, Ty.agg24, Ty.csz24] <;> rfl), ?_⟩
                  refine ⟨?_, E40⟩; (try subst hc4); (try subst hc23); first | (simp [binS, outS, sumsS, hc4, hg7, hc8, hc23, hc26, hc30, hc34, hc38]; done) | (simp [binS, outS, hc4, hg7, hc8, hc23, hc26, hc30, hc34, hc38]; done) | (subst_vars; simp [binS, outS, sumsS, hc4, hg7, hc8, hc23, hc26, hc30, hc34, hc38]; done) | (exfalso; omega)
                · have hc38 := dec_f hc38
                  refine w_seq ?_
                  refine w_region ?_
                  refine o_rd (r_eq (a := op) (b := 24) (by simp only [ev, envOf, val_set, ofValue, ofCell, ↓reduceIte, Nat.reduceEqDiff] <;> rfl) (by simp only [ev, envOf, val_set, ofValue, ofCell, ↓reduceIte, Nat.reduceEqDiff] <;> rfl)) rfl rfl ?_
                  refine o_rd (r_assign (by simp only [ev, envOf, val_set, ofValue, ofCell, ↓reduceIte, Nat.reduceEqDiff] <;> rfl)) rfl rfl ?_
                  refine o_nil ?_
                  refine w_cond (by simp only [ev, envOf, val_set, ofValue, ofCell, ↓reduceIte, Nat.reduceEqDiff] <;> rfl) (fun hc42 => ?_) (fun hc42 => ?_)
                  · have hc42 := dec_t hc42
                    refine w_seq ?_
                    refine w_region ?_
                    refine o_rd (r_move (by simp only [ev, envOf, val_set, ofValue, ofCell, ↓reduceIte, Nat.reduceEqDiff] <;> rfl)) rfl rfl ?_
                    refine o_rd (r_move (by simp only [ev, envOf, val_set, ofValue, ofCell, ↓reduceIte, Nat.reduceEqDiff] <;> rfl)) rfl rfl ?_
                    refine o_rd (r_le (a := an) (b := bn) (by simp only [ev, envOf, val_set, ofValue, ofCell, ↓reduceIte, Nat.reduceEqDiff] <;> rfl) (by simp only [ev, envOf, val_set, ofValue, ofCell, ↓reduceIte, Nat.reduceEqDiff] <;> rfl)) rfl rfl ?_
                    refine o_cl rfl rfl (by simp only [evs, ev, envOf, val_set, ofValue, ofCell, ↓reduceIte, Nat.reduceEqDiff] <;> rfl) rfl (truth_fin ho W3 (decide (an ≤ bn))) rfl rfl ?_; rintro _ H43 ⟨rfl, X43⟩
                    have W43 := X43.wf; have E43 := E3.trans X43
                    have A1 := X43.keep _ _ A1
                    have A2 := X43.keep _ _ A2
                    have A3 := X43.keep _ _ A3
                    have n43 := X43.n
                    refine o_st W43 (by simp only [ev, envOf, val_set, ofValue, ofCell, ↓reduceIte, Nat.reduceEqDiff] <;> rfl) (by simp only [ev, envOf, val_set, ofValue, ofCell, ↓reduceIte, Nat.reduceEqDiff] <;> rfl) A3 Ty.csz24 rfl (Nat.le_of_ble_eq_true rfl) (by rfl) rfl rfl ?_; intro H44 n44 W44 A44 K44
                    have A44 : H44.at H2.n = some (.row [.int .i64 (2), .int .i64 (flagN (decide (an ≤ bn))), .nils] 24 false none) := A44
                    have E44 := Ext.put W0 E43 (by have := E43.n; omega) K44 n44 W44
                    have A1 := K44.own A1 (by omega)
                    have A2 := K44.own A2 (by omega)
                    refine o_rd (r_assign (by simp only [ev, envOf, val_set, ofValue, ofCell, ↓reduceIte, Nat.reduceEqDiff] <;> rfl)) rfl rfl ?_
                    refine o_nil ?_
                    have hr45 : H44.read (.mt H2.n) 0 3 = some [.int .i64 (2), .int .i64 (flagN (decide (an ≤ bn))), .nils] := read_mt A44 (Nat.le_of_ble_eq_true rfl)
                    refine w_ret ⟨.inr rfl, rfl, .tup [.agg [.int .i64 (2), .int .i64 (flagN (decide (an ≤ bn))), .nils], .int .i64 (0)], (show resultA Try.prog [.cell 6 24, .tmp 7] _ = _ by simp only [resultA, resultsA, envOf, val_set, ↓reduceIte, Nat.reduceEqDiff, Option.map_some, hr45, Ty.agg24, Ty.csz24] <;> rfl), ?_⟩
                    refine ⟨?_, E44⟩; (try subst hc4); (try subst hc23); first | (simp [binS, outS, sumsS, hc4, hg7, hc8, hc23, hc26, hc30, hc34, hc38, hc42]; done) | (simp [binS, outS, hc4, hg7, hc8, hc23, hc26, hc30, hc34, hc38, hc42]; done) | (subst_vars; simp [binS, outS, sumsS, hc4, hg7, hc8, hc23, hc26, hc30, hc34, hc38, hc42]; done) | (exfalso; omega)
                  · have hc42 := dec_f hc42
                    refine w_seq ?_
                    refine w_region ?_
                    refine o_rd (r_eq (a := op) (b := 25) (by simp only [ev, envOf, val_set, ofValue, ofCell, ↓reduceIte, Nat.reduceEqDiff] <;> rfl) (by simp only [ev, envOf, val_set, ofValue, ofCell, ↓reduceIte, Nat.reduceEqDiff] <;> rfl)) rfl rfl ?_
                    refine o_rd (r_assign (by simp only [ev, envOf, val_set, ofValue, ofCell, ↓reduceIte, Nat.reduceEqDiff] <;> rfl)) rfl rfl ?_
                    refine o_nil ?_
                    refine w_cond (by simp only [ev, envOf, val_set, ofValue, ofCell, ↓reduceIte, Nat.reduceEqDiff] <;> rfl) (fun hc46 => ?_) (fun hc46 => ?_)
                    · have hc46 := dec_t hc46
                      refine w_seq ?_
                      refine w_region ?_
                      refine o_rd (r_move (by simp only [ev, envOf, val_set, ofValue, ofCell, ↓reduceIte, Nat.reduceEqDiff] <;> rfl)) rfl rfl ?_
                      refine o_rd (r_move (by simp only [ev, envOf, val_set, ofValue, ofCell, ↓reduceIte, Nat.reduceEqDiff] <;> rfl)) rfl rfl ?_
                      refine o_rd (r_gt (a := an) (b := bn) (by simp only [ev, envOf, val_set, ofValue, ofCell, ↓reduceIte, Nat.reduceEqDiff] <;> rfl) (by simp only [ev, envOf, val_set, ofValue, ofCell, ↓reduceIte, Nat.reduceEqDiff] <;> rfl)) rfl rfl ?_
                      refine o_cl rfl rfl (by simp only [evs, ev, envOf, val_set, ofValue, ofCell, ↓reduceIte, Nat.reduceEqDiff] <;> rfl) rfl (truth_fin ho W3 (decide (bn < an))) rfl rfl ?_; rintro _ H47 ⟨rfl, X47⟩
                      have W47 := X47.wf; have E47 := E3.trans X47
                      have A1 := X47.keep _ _ A1
                      have A2 := X47.keep _ _ A2
                      have A3 := X47.keep _ _ A3
                      have n47 := X47.n
                      refine o_st W47 (by simp only [ev, envOf, val_set, ofValue, ofCell, ↓reduceIte, Nat.reduceEqDiff] <;> rfl) (by simp only [ev, envOf, val_set, ofValue, ofCell, ↓reduceIte, Nat.reduceEqDiff] <;> rfl) A3 Ty.csz24 rfl (Nat.le_of_ble_eq_true rfl) (by rfl) rfl rfl ?_; intro H48 n48 W48 A48 K48
                      have A48 : H48.at H2.n = some (.row [.int .i64 (2), .int .i64 (flagN (decide (bn < an))), .nils] 24 false none) := A48
                      have E48 := Ext.put W0 E47 (by have := E47.n; omega) K48 n48 W48
                      have A1 := K48.own A1 (by omega)
                      have A2 := K48.own A2 (by omega)
                      refine o_rd (r_assign (by simp only [ev, envOf, val_set, ofValue, ofCell, ↓reduceIte, Nat.reduceEqDiff] <;> rfl)) rfl rfl ?_
                      refine o_nil ?_
                      have hr49 : H48.read (.mt H2.n) 0 3 = some [.int .i64 (2), .int .i64 (flagN (decide (bn < an))), .nils] := read_mt A48 (Nat.le_of_ble_eq_true rfl)
                      refine w_ret ⟨.inr rfl, rfl, .tup [.agg [.int .i64 (2), .int .i64 (flagN (decide (bn < an))), .nils], .int .i64 (0)], (show resultA Try.prog [.cell 6 24, .tmp 7] _ = _ by simp only [resultA, resultsA, envOf, val_set, ↓reduceIte, Nat.reduceEqDiff, Option.map_some, hr49, Ty.agg24, Ty.csz24] <;> rfl), ?_⟩
                      refine ⟨?_, E48⟩; (try subst hc4); (try subst hc23); first | (simp [binS, outS, sumsS, hc4, hg7, hc8, hc23, hc26, hc30, hc34, hc38, hc42, hc46]; done) | (simp [binS, outS, hc4, hg7, hc8, hc23, hc26, hc30, hc34, hc38, hc42, hc46]; done) | (subst_vars; simp [binS, outS, sumsS, hc4, hg7, hc8, hc23, hc26, hc30, hc34, hc38, hc42, hc46]; done) | (exfalso; omega)
                    · have hc46 := dec_f hc46
                      refine w_seq ?_
                      refine w_region ?_
                      refine o_rd (r_eq (a := op) (b := 26) (by simp only [ev, envOf, val_set, ofValue, ofCell, ↓reduceIte, Nat.reduceEqDiff] <;> rfl) (by simp only [ev, envOf, val_set, ofValue, ofCell, ↓reduceIte, Nat.reduceEqDiff] <;> rfl)) rfl rfl ?_
                      refine o_rd (r_assign (by simp only [ev, envOf, val_set, ofValue, ofCell, ↓reduceIte, Nat.reduceEqDiff] <;> rfl)) rfl rfl ?_
                      refine o_nil ?_
                      refine w_cond (by simp only [ev, envOf, val_set, ofValue, ofCell, ↓reduceIte, Nat.reduceEqDiff] <;> rfl) (fun hc50 => ?_) (fun hc50 => ?_)
                      · have hc50 := dec_t hc50
                        refine w_seq ?_
                        refine w_region ?_
                        refine o_rd (r_move (by simp only [ev, envOf, val_set, ofValue, ofCell, ↓reduceIte, Nat.reduceEqDiff] <;> rfl)) rfl rfl ?_
                        refine o_rd (r_move (by simp only [ev, envOf, val_set, ofValue, ofCell, ↓reduceIte, Nat.reduceEqDiff] <;> rfl)) rfl rfl ?_
                        refine o_rd (r_ge (a := an) (b := bn) (by simp only [ev, envOf, val_set, ofValue, ofCell, ↓reduceIte, Nat.reduceEqDiff] <;> rfl) (by simp only [ev, envOf, val_set, ofValue, ofCell, ↓reduceIte, Nat.reduceEqDiff] <;> rfl)) rfl rfl ?_
                        refine o_cl rfl rfl (by simp only [evs, ev, envOf, val_set, ofValue, ofCell, ↓reduceIte, Nat.reduceEqDiff] <;> rfl) rfl (truth_fin ho W3 (decide (bn ≤ an))) rfl rfl ?_; rintro _ H51 ⟨rfl, X51⟩
                        have W51 := X51.wf; have E51 := E3.trans X51
                        have A1 := X51.keep _ _ A1
                        have A2 := X51.keep _ _ A2
                        have A3 := X51.keep _ _ A3
                        have n51 := X51.n
                        refine o_st W51 (by simp only [ev, envOf, val_set, ofValue, ofCell, ↓reduceIte, Nat.reduceEqDiff] <;> rfl) (by simp only [ev, envOf, val_set, ofValue, ofCell, ↓reduceIte, Nat.reduceEqDiff] <;> rfl) A3 Ty.csz24 rfl (Nat.le_of_ble_eq_true rfl) (by rfl) rfl rfl ?_; intro H52 n52 W52 A52 K52
                        have A52 : H52.at H2.n = some (.row [.int .i64 (2), .int .i64 (flagN (decide (bn ≤ an))), .nils] 24 false none) := A52
                        have E52 := Ext.put W0 E51 (by have := E51.n; omega) K52 n52 W52
                        have A1 := K52.own A1 (by omega)
                        have A2 := K52.own A2 (by omega)
                        refine o_rd (r_assign (by simp only [ev, envOf, val_set, ofValue, ofCell, ↓reduceIte, Nat.reduceEqDiff] <;> rfl)) rfl rfl ?_
                        refine o_nil ?_
                        have hr53 : H52.read (.mt H2.n) 0 3 = some [.int .i64 (2), .int .i64 (flagN (decide (bn ≤ an))), .nils] := read_mt A52 (Nat.le_of_ble_eq_true rfl)
                        refine w_ret ⟨.inr rfl, rfl, .tup [.agg [.int .i64 (2), .int .i64 (flagN (decide (bn ≤ an))), .nils], .int .i64 (0)], (show resultA Try.prog [.cell 6 24, .tmp 7] _ = _ by simp only [resultA, resultsA, envOf, val_set, ↓reduceIte, Nat.reduceEqDiff, Option.map_some, hr53, Ty.agg24, Ty.csz24] <;> rfl), ?_⟩
                        refine ⟨?_, E52⟩; (try subst hc4); (try subst hc23); first | (simp [binS, outS, sumsS, hc4, hg7, hc8, hc23, hc26, hc30, hc34, hc38, hc42, hc46, hc50]; done) | (simp [binS, outS, hc4, hg7, hc8, hc23, hc26, hc30, hc34, hc38, hc42, hc46, hc50]; done) | (subst_vars; simp [binS, outS, sumsS, hc4, hg7, hc8, hc23, hc26, hc30, hc34, hc38, hc42, hc46, hc50]; done) | (exfalso; omega)
                      · have hc50 := dec_f hc50
                        refine w_seq ?_
                        refine w_seq ?_
                        refine w_region ?_
                        refine o_rd (r_eq (a := op) (b := 42) (by simp only [ev, envOf, val_set, ofValue, ofCell, ↓reduceIte, Nat.reduceEqDiff] <;> rfl) (by simp only [ev, envOf, val_set, ofValue, ofCell, ↓reduceIte, Nat.reduceEqDiff] <;> rfl)) rfl rfl ?_
                        refine o_rd (r_assign (by simp only [ev, envOf, val_set, ofValue, ofCell, ↓reduceIte, Nat.reduceEqDiff] <;> rfl)) rfl rfl ?_
                        refine o_nil ?_
                        refine w_cond (by simp only [ev, envOf, val_set, ofValue, ofCell, ↓reduceIte, Nat.reduceEqDiff] <;> rfl) (fun hc54 => ?_) (fun hc54 => ?_)
                        · have hc54 := dec_t hc54
                          refine w_skip ?_
                          refine w_cond (by simp only [ev, envOf, val_set, ofValue, ofCell, ↓reduceIte, Nat.reduceEqDiff] <;> rfl) (fun hc55 => ?_) (fun hc55 => ?_)
                          · have hc55 := dec_t hc55
                            refine w_seq ?_
                            refine w_seq ?_
                            refine w_region ?_
                            refine o_rd (r_move (by simp only [ev, envOf, val_set, ofValue, ofCell, ↓reduceIte, Nat.reduceEqDiff] <;> rfl)) rfl rfl ?_
                            refine o_rd (r_eq (a := bn) (b := 0) (by simp only [ev, envOf, val_set, ofValue, ofCell, ↓reduceIte, Nat.reduceEqDiff] <;> rfl) (by simp only [ev, envOf, val_set, ofValue, ofCell, ↓reduceIte, Nat.reduceEqDiff] <;> rfl)) rfl rfl ?_
                            refine o_nil ?_
                            refine w_cond (by simp only [ev, envOf, val_set, ofValue, ofCell, ↓reduceIte, Nat.reduceEqDiff] <;> rfl) (fun hc56 => ?_) (fun hc56 => ?_)
                            · have hc56 := dec_t hc56
                              refine w_seq ?_
                              refine w_region ?_
                              refine o_rd (r_build (cs := [.int .i64 (0), .int .i64 (0), .nils]) Ty.zero24 Ty.pl24 (by simp only [evParts, ev, envOf, val_set, ofValue, ofCell, ↓reduceIte, Nat.reduceEqDiff] <;> rfl) rfl) rfl rfl ?_
                              refine o_st W3 (by simp only [ev, envOf, val_set, ofValue, ofCell, ↓reduceIte, Nat.reduceEqDiff] <;> rfl) (by simp only [ev, envOf, val_set, ofValue, ofCell, ↓reduceIte, Nat.reduceEqDiff] <;> rfl) A3 Ty.csz24 rfl (Nat.le_of_ble_eq_true rfl) (by rfl) rfl rfl ?_; intro H57 n57 W57 A57 K57
                              have A57 : H57.at H2.n = some (.row [.int .i64 (0), .int .i64 (0), .nils] 24 false none) := A57
                              have E57 := Ext.put W0 E3 (by have := E3.n; omega) K57 n57 W57
                              have A1 := K57.own A1 (by omega)
                              have A2 := K57.own A2 (by omega)
                              refine o_rd (r_assign (by simp only [ev, envOf, val_set, ofValue, ofCell, ↓reduceIte, Nat.reduceEqDiff] <;> rfl)) rfl rfl ?_
                              refine o_nil ?_
                              have hr58 : H57.read (.mt H2.n) 0 3 = some [.int .i64 (0), .int .i64 (0), .nils] := read_mt A57 (Nat.le_of_ble_eq_true rfl)
                              refine w_ret ⟨.inr rfl, rfl, .tup [.agg [.int .i64 (0), .int .i64 (0), .nils], .int .i64 (1)], (show resultA Try.prog [.cell 6 24, .tmp 7] _ = _ by simp only [resultA, resultsA, envOf, val_set, ↓reduceIte, Nat.reduceEqDiff, Option.map_some, hr58, Ty.agg24, Ty.csz24] <;> rfl), ?_⟩
                              refine ⟨?_, E57⟩; (try subst hc4); (try subst hc23); first | (simp [binS, outS, sumsS, hc4, hg7, hc8, hc23, hc26, hc30, hc34, hc38, hc42, hc46, hc50, hc54, hc55, hc56]; done) | (simp [binS, outS, hc4, hg7, hc8, hc23, hc26, hc30, hc34, hc38, hc42, hc46, hc50, hc54, hc55, hc56]; done) | (subst_vars; simp [binS, outS, sumsS, hc4, hg7, hc8, hc23, hc26, hc30, hc34, hc38, hc42, hc46, hc50, hc54, hc55, hc56]; done) | (exfalso; omega)
                            · have hc56 := dec_f hc56
                              refine w_skip ?_
                              refine w_seq ?_
                              refine w_seq ?_
                              refine w_region ?_
                              refine o_rd (r_move (by simp only [ev, envOf, val_set, ofValue, ofCell, ↓reduceIte, Nat.reduceEqDiff] <;> rfl)) rfl rfl ?_
                              refine o_rd (r_eq (a := op) (b := 42) (by simp only [ev, envOf, val_set, ofValue, ofCell, ↓reduceIte, Nat.reduceEqDiff] <;> rfl) (by simp only [ev, envOf, val_set, ofValue, ofCell, ↓reduceIte, Nat.reduceEqDiff] <;> rfl)) rfl rfl ?_
                              refine o_nil ?_
                              refine w_cond (by simp only [ev, envOf, val_set, ofValue, ofCell, ↓reduceIte, Nat.reduceEqDiff] <;> rfl) (fun hc59 => ?_) (fun hc59 => ?_)
                              · have hc59 := dec_t hc59
                                refine w_seq ?_
                                refine w_region ?_
                                refine o_rd (r_move (by simp only [ev, envOf, val_set, ofValue, ofCell, ↓reduceIte, Nat.reduceEqDiff] <;> rfl)) rfl rfl ?_
                                refine o_rd (r_move (by simp only [ev, envOf, val_set, ofValue, ofCell, ↓reduceIte, Nat.reduceEqDiff] <;> rfl)) rfl rfl ?_
                                refine o_rd (r_quoW (a := an) (b := bn) (by assumption) (by simp only [ev, envOf, val_set, ofValue, ofCell, ↓reduceIte, Nat.reduceEqDiff] <;> rfl) (by simp only [ev, envOf, val_set, ofValue, ofCell, ↓reduceIte, Nat.reduceEqDiff] <;> rfl)) rfl rfl ?_
                                refine o_cl rfl rfl (by simp only [evs, ev, envOf, val_set, ofValue, ofCell, ↓reduceIte, Nat.reduceEqDiff] <;> rfl) rfl (number_fin ho W3 (wrapA .i64 (Int.tdiv (an) (bn)))) rfl rfl ?_; rintro _ H60 ⟨rfl, X60⟩
                                have W60 := X60.wf; have E60 := E3.trans X60
                                have A1 := X60.keep _ _ A1
                                have A2 := X60.keep _ _ A2
                                have A3 := X60.keep _ _ A3
                                have n60 := X60.n
                                refine o_st W60 (by simp only [ev, envOf, val_set, ofValue, ofCell, ↓reduceIte, Nat.reduceEqDiff] <;> rfl) (by simp only [ev, envOf, val_set, ofValue, ofCell, ↓reduceIte, Nat.reduceEqDiff] <;> rfl) A3 Ty.csz24 rfl (Nat.le_of_ble_eq_true rfl) (by rfl) rfl rfl ?_; intro H61 n61 W61 A61 K61
                                have A61 : H61.at H2.n = some (.row [.int .i64 (1), .int .i64 (wrapA .i64 (Int.tdiv (an) (bn))), .nils] 24 false none) := A61
                                have E61 := Ext.put W0 E60 (by have := E60.n; omega) K61 n61 W61
                                have A1 := K61.own A1 (by omega)
                                have A2 := K61.own A2 (by omega)
                                refine o_rd (r_assign (by simp only [ev, envOf, val_set, ofValue, ofCell, ↓reduceIte, Nat.reduceEqDiff] <;> rfl)) rfl rfl ?_
                                refine o_nil ?_
                                have hr62 : H61.read (.mt H2.n) 0 3 = some [.int .i64 (1), .int .i64 (wrapA .i64 (Int.tdiv (an) (bn))), .nils] := read_mt A61 (Nat.le_of_ble_eq_true rfl)
                                refine w_ret ⟨.inr rfl, rfl, .tup [.agg [.int .i64 (1), .int .i64 (wrapA .i64 (Int.tdiv (an) (bn))), .nils], .int .i64 (0)], (show resultA Try.prog [.cell 6 24, .tmp 7] _ = _ by simp only [resultA, resultsA, envOf, val_set, ↓reduceIte, Nat.reduceEqDiff, Option.map_some, hr62, Ty.agg24, Ty.csz24] <;> rfl), ?_⟩
                                refine ⟨?_, E61⟩; (try subst hc4); (try subst hc23); first | (simp [binS, outS, sumsS, hc4, hg7, hc8, hc23, hc26, hc30, hc34, hc38, hc42, hc46, hc50, hc54, hc55, hc56, hc59]; done) | (simp [binS, outS, hc4, hg7, hc8, hc23, hc26, hc30, hc34, hc38, hc42, hc46, hc50, hc54, hc55, hc56, hc59]; done) | (subst_vars; simp [binS, outS, sumsS, hc4, hg7, hc8, hc23, hc26, hc30, hc34, hc38, hc42, hc46, hc50, hc54, hc55, hc56, hc59]; done) | (exfalso; omega)
                              · have hc59 := dec_f hc59
                                refine w_skip ?_
                                refine w_seq ?_
                                refine w_region ?_
                                refine o_rd (r_move (by simp only [ev, envOf, val_set, ofValue, ofCell, ↓reduceIte, Nat.reduceEqDiff] <;> rfl)) rfl rfl ?_
                                refine o_rd (r_move (by simp only [ev, envOf, val_set, ofValue, ofCell, ↓reduceIte, Nat.reduceEqDiff] <;> rfl)) rfl rfl ?_
                                refine o_rd (r_remW (a := an) (b := bn) (by assumption) (by simp only [ev, envOf, val_set, ofValue, ofCell, ↓reduceIte, Nat.reduceEqDiff] <;> rfl) (by simp only [ev, envOf, val_set, ofValue, ofCell, ↓reduceIte, Nat.reduceEqDiff] <;> rfl)) rfl rfl ?_
                                refine o_cl rfl rfl (by simp only [evs, ev, envOf, val_set, ofValue, ofCell, ↓reduceIte, Nat.reduceEqDiff] <;> rfl) rfl (number_fin ho W3 (Int.tmod (an) (bn))) rfl rfl ?_; rintro _ H63 ⟨rfl, X63⟩
                                have W63 := X63.wf; have E63 := E3.trans X63
                                have A1 := X63.keep _ _ A1
                                have A2 := X63.keep _ _ A2
                                have A3 := X63.keep _ _ A3
                                have n63 := X63.n
                                refine o_st W63 (by simp only [ev, envOf, val_set, ofValue, ofCell, ↓reduceIte, Nat.reduceEqDiff] <;> rfl) (by simp only [ev, envOf, val_set, ofValue, ofCell, ↓reduceIte, Nat.reduceEqDiff] <;> rfl) A3 Ty.csz24 rfl (Nat.le_of_ble_eq_true rfl) (by rfl) rfl rfl ?_; intro H64 n64 W64 A64 K64
                                have A64 : H64.at H2.n = some (.row [.int .i64 (1), .int .i64 (Int.tmod (an) (bn)), .nils] 24 false none) := A64
                                have E64 := Ext.put W0 E63 (by have := E63.n; omega) K64 n64 W64
                                have A1 := K64.own A1 (by omega)
                                have A2 := K64.own A2 (by omega)
                                refine o_rd (r_assign (by simp only [ev, envOf, val_set, ofValue, ofCell, ↓reduceIte, Nat.reduceEqDiff] <;> rfl)) rfl rfl ?_
                                refine o_nil ?_
                                have hr65 : H64.read (.mt H2.n) 0 3 = some [.int .i64 (1), .int .i64 (Int.tmod (an) (bn)), .nils] := read_mt A64 (Nat.le_of_ble_eq_true rfl)
                                refine w_ret ⟨.inr rfl, rfl, .tup [.agg [.int .i64 (1), .int .i64 (Int.tmod (an) (bn)), .nils], .int .i64 (0)], (show resultA Try.prog [.cell 6 24, .tmp 7] _ = _ by simp only [resultA, resultsA, envOf, val_set, ↓reduceIte, Nat.reduceEqDiff, Option.map_some, hr65, Ty.agg24, Ty.csz24] <;> rfl), ?_⟩
                                refine ⟨?_, E64⟩; (try subst hc4); (try subst hc23); first | (simp [binS, outS, sumsS, hc4, hg7, hc8, hc23, hc26, hc30, hc34, hc38, hc42, hc46, hc50, hc54, hc55, hc56, hc59]; done) | (simp [binS, outS, hc4, hg7, hc8, hc23, hc26, hc30, hc34, hc38, hc42, hc46, hc50, hc54, hc55, hc56, hc59]; done) | (subst_vars; simp [binS, outS, sumsS, hc4, hg7, hc8, hc23, hc26, hc30, hc34, hc38, hc42, hc46, hc50, hc54, hc55, hc56, hc59]; done) | (exfalso; omega)
                          · have hc55 := dec_f hc55
                            refine w_skip ?_
                            refine w_seq ?_
                            refine w_region ?_
                            refine o_rd (r_build (cs := [.int .i64 (0), .int .i64 (0), .nils]) Ty.zero24 Ty.pl24 (by simp only [evParts, ev, envOf, val_set, ofValue, ofCell, ↓reduceIte, Nat.reduceEqDiff] <;> rfl) rfl) rfl rfl ?_
                            refine o_st W3 (by simp only [ev, envOf, val_set, ofValue, ofCell, ↓reduceIte, Nat.reduceEqDiff] <;> rfl) (by simp only [ev, envOf, val_set, ofValue, ofCell, ↓reduceIte, Nat.reduceEqDiff] <;> rfl) A3 Ty.csz24 rfl (Nat.le_of_ble_eq_true rfl) (by rfl) rfl rfl ?_; intro H66 n66 W66 A66 K66
                            have A66 : H66.at H2.n = some (.row [.int .i64 (0), .int .i64 (0), .nils] 24 false none) := A66
                            have E66 := Ext.put W0 E3 (by have := E3.n; omega) K66 n66 W66
                            have A1 := K66.own A1 (by omega)
                            have A2 := K66.own A2 (by omega)
                            refine o_rd (r_assign (by simp only [ev, envOf, val_set, ofValue, ofCell, ↓reduceIte, Nat.reduceEqDiff] <;> rfl)) rfl rfl ?_
                            refine o_nil ?_
                            have hr67 : H66.read (.mt H2.n) 0 3 = some [.int .i64 (0), .int .i64 (0), .nils] := read_mt A66 (Nat.le_of_ble_eq_true rfl)
                            refine w_ret ⟨.inr rfl, rfl, .tup [.agg [.int .i64 (0), .int .i64 (0), .nils], .int .i64 (5)], (show resultA Try.prog [.cell 6 24, .tmp 7] _ = _ by simp only [resultA, resultsA, envOf, val_set, ↓reduceIte, Nat.reduceEqDiff, Option.map_some, hr67, Ty.agg24, Ty.csz24] <;> rfl), ?_⟩
                            refine ⟨?_, E66⟩; (try subst hc4); (try subst hc23); first | (simp [binS, outS, sumsS, hc4, hg7, hc8, hc23, hc26, hc30, hc34, hc38, hc42, hc46, hc50, hc54, hc55]; done) | (simp [binS, outS, hc4, hg7, hc8, hc23, hc26, hc30, hc34, hc38, hc42, hc46, hc50, hc54, hc55]; done) | (subst_vars; simp [binS, outS, sumsS, hc4, hg7, hc8, hc23, hc26, hc30, hc34, hc38, hc42, hc46, hc50, hc54, hc55]; done) | (exfalso; omega)
                        · have hc54 := dec_f hc54
                          refine w_region ?_
                          refine o_rd (r_eq (a := op) (b := 43) (by simp only [ev, envOf, val_set, ofValue, ofCell, ↓reduceIte, Nat.reduceEqDiff] <;> rfl) (by simp only [ev, envOf, val_set, ofValue, ofCell, ↓reduceIte, Nat.reduceEqDiff] <;> rfl)) rfl rfl ?_
                          refine o_rd (r_assign (by simp only [ev, envOf, val_set, ofValue, ofCell, ↓reduceIte, Nat.reduceEqDiff] <;> rfl)) rfl rfl ?_
                          refine o_nil ?_
                          refine w_cond (by simp only [ev, envOf, val_set, ofValue, ofCell, ↓reduceIte, Nat.reduceEqDiff] <;> rfl) (fun hc68 => ?_) (fun hc68 => ?_)
                          · have hc68 := dec_t hc68
                            refine w_seq ?_
                            refine w_seq ?_
                            refine w_region ?_
                            refine o_rd (r_move (by simp only [ev, envOf, val_set, ofValue, ofCell, ↓reduceIte, Nat.reduceEqDiff] <;> rfl)) rfl rfl ?_
                            refine o_rd (r_eq (a := bn) (b := 0) (by simp only [ev, envOf, val_set, ofValue, ofCell, ↓reduceIte, Nat.reduceEqDiff] <;> rfl) (by simp only [ev, envOf, val_set, ofValue, ofCell, ↓reduceIte, Nat.reduceEqDiff] <;> rfl)) rfl rfl ?_
                            refine o_nil ?_
                            refine w_cond (by simp only [ev, envOf, val_set, ofValue, ofCell, ↓reduceIte, Nat.reduceEqDiff] <;> rfl) (fun hc69 => ?_) (fun hc69 => ?_)
                            · have hc69 := dec_t hc69
                              refine w_seq ?_
                              refine w_region ?_
                              refine o_rd (r_build (cs := [.int .i64 (0), .int .i64 (0), .nils]) Ty.zero24 Ty.pl24 (by simp only [evParts, ev, envOf, val_set, ofValue, ofCell, ↓reduceIte, Nat.reduceEqDiff] <;> rfl) rfl) rfl rfl ?_
                              refine o_st W3 (by simp only [ev, envOf, val_set, ofValue, ofCell, ↓reduceIte, Nat.reduceEqDiff] <;> rfl) (by simp only [ev, envOf, val_set, ofValue, ofCell, ↓reduceIte, Nat.reduceEqDiff] <;> rfl) A3 Ty.csz24 rfl (Nat.le_of_ble_eq_true rfl) (by rfl) rfl rfl ?_; intro H70 n70 W70 A70 K70
                              have A70 : H70.at H2.n = some (.row [.int .i64 (0), .int .i64 (0), .nils] 24 false none) := A70
                              have E70 := Ext.put W0 E3 (by have := E3.n; omega) K70 n70 W70
                              have A1 := K70.own A1 (by omega)
                              have A2 := K70.own A2 (by omega)
                              refine o_rd (r_assign (by simp only [ev, envOf, val_set, ofValue, ofCell, ↓reduceIte, Nat.reduceEqDiff] <;> rfl)) rfl rfl ?_
                              refine o_nil ?_
                              have hr71 : H70.read (.mt H2.n) 0 3 = some [.int .i64 (0), .int .i64 (0), .nils] := read_mt A70 (Nat.le_of_ble_eq_true rfl)
                              refine w_ret ⟨.inr rfl, rfl, .tup [.agg [.int .i64 (0), .int .i64 (0), .nils], .int .i64 (1)], (show resultA Try.prog [.cell 6 24, .tmp 7] _ = _ by simp only [resultA, resultsA, envOf, val_set, ↓reduceIte, Nat.reduceEqDiff, Option.map_some, hr71, Ty.agg24, Ty.csz24] <;> rfl), ?_⟩
                              refine ⟨?_, E70⟩; (try subst hc4); (try subst hc23); first | (simp [binS, outS, sumsS, hc4, hg7, hc8, hc23, hc26, hc30, hc34, hc38, hc42, hc46, hc50, hc54, hc68, hc69]; done) | (simp [binS, outS, hc4, hg7, hc8, hc23, hc26, hc30, hc34, hc38, hc42, hc46, hc50, hc54, hc68, hc69]; done) | (subst_vars; simp [binS, outS, sumsS, hc4, hg7, hc8, hc23, hc26, hc30, hc34, hc38, hc42, hc46, hc50, hc54, hc68, hc69]; done) | (exfalso; omega)
                            · have hc69 := dec_f hc69
                              refine w_skip ?_
                              refine w_seq ?_
                              refine w_seq ?_
                              refine w_region ?_
                              refine o_rd (r_move (by simp only [ev, envOf, val_set, ofValue, ofCell, ↓reduceIte, Nat.reduceEqDiff] <;> rfl)) rfl rfl ?_
                              refine o_rd (r_eq (a := op) (b := 42) (by simp only [ev, envOf, val_set, ofValue, ofCell, ↓reduceIte, Nat.reduceEqDiff] <;> rfl) (by simp only [ev, envOf, val_set, ofValue, ofCell, ↓reduceIte, Nat.reduceEqDiff] <;> rfl)) rfl rfl ?_
                              refine o_nil ?_
                              refine w_cond (by simp only [ev, envOf, val_set, ofValue, ofCell, ↓reduceIte, Nat.reduceEqDiff] <;> rfl) (fun hc72 => ?_) (fun hc72 => ?_)
                              · have hc72 := dec_t hc72
                                refine w_seq ?_
                                refine w_region ?_
                                refine o_rd (r_move (by simp only [ev, envOf, val_set, ofValue, ofCell, ↓reduceIte, Nat.reduceEqDiff] <;> rfl)) rfl rfl ?_
                                refine o_rd (r_move (by simp only [ev, envOf, val_set, ofValue, ofCell, ↓reduceIte, Nat.reduceEqDiff] <;> rfl)) rfl rfl ?_
                                refine o_rd (r_quoW (a := an) (b := bn) (by assumption) (by simp only [ev, envOf, val_set, ofValue, ofCell, ↓reduceIte, Nat.reduceEqDiff] <;> rfl) (by simp only [ev, envOf, val_set, ofValue, ofCell, ↓reduceIte, Nat.reduceEqDiff] <;> rfl)) rfl rfl ?_
                                refine o_cl rfl rfl (by simp only [evs, ev, envOf, val_set, ofValue, ofCell, ↓reduceIte, Nat.reduceEqDiff] <;> rfl) rfl (number_fin ho W3 (wrapA .i64 (Int.tdiv (an) (bn)))) rfl rfl ?_; rintro _ H73 ⟨rfl, X73⟩
                                have W73 := X73.wf; have E73 := E3.trans X73
                                have A1 := X73.keep _ _ A1
                                have A2 := X73.keep _ _ A2
                                have A3 := X73.keep _ _ A3
                                have n73 := X73.n
                                refine o_st W73 (by simp only [ev, envOf, val_set, ofValue, ofCell, ↓reduceIte, Nat.reduceEqDiff] <;> rfl) (by simp only [ev, envOf, val_set, ofValue, ofCell, ↓reduceIte, Nat.reduceEqDiff] <;> rfl) A3 Ty.csz24 rfl (Nat.le_of_ble_eq_true rfl) (by rfl) rfl rfl ?_; intro H74 n74 W74 A74 K74
                                have A74 : H74.at H2.n = some (.row [.int .i64 (1), .int .i64 (wrapA .i64 (Int.tdiv (an) (bn))), .nils] 24 false none) := A74
                                have E74 := Ext.put W0 E73 (by have := E73.n; omega) K74 n74 W74
                                have A1 := K74.own A1 (by omega)
                                have A2 := K74.own A2 (by omega)
                                refine o_rd (r_assign (by simp only [ev, envOf, val_set, ofValue, ofCell, ↓reduceIte, Nat.reduceEqDiff] <;> rfl)) rfl rfl ?_
                                refine o_nil ?_
                                have hr75 : H74.read (.mt H2.n) 0 3 = some [.int .i64 (1), .int .i64 (wrapA .i64 (Int.tdiv (an) (bn))), .nils] := read_mt A74 (Nat.le_of_ble_eq_true rfl)
                                refine w_ret ⟨.inr rfl, rfl, .tup [.agg [.int .i64 (1), .int .i64 (wrapA .i64 (Int.tdiv (an) (bn))), .nils], .int .i64 (0)], (show resultA Try.prog [.cell 6 24, .tmp 7] _ = _ by simp only [resultA, resultsA, envOf, val_set, ↓reduceIte, Nat.reduceEqDiff, Option.map_some, hr75, Ty.agg24, Ty.csz24] <;> rfl), ?_⟩
                                refine ⟨?_, E74⟩; (try subst hc4); (try subst hc23); first | (simp [binS, outS, sumsS, hc4, hg7, hc8, hc23, hc26, hc30, hc34, hc38, hc42, hc46, hc50, hc54, hc68, hc69, hc72]; done) | (simp [binS, outS, hc4, hg7, hc8, hc23, hc26, hc30, hc34, hc38, hc42, hc46, hc50, hc54, hc68, hc69, hc72]; done) | (subst_vars; simp [binS, outS, sumsS, hc4, hg7, hc8, hc23, hc26, hc30, hc34, hc38, hc42, hc46, hc50, hc54, hc68, hc69, hc72]; done) | (exfalso; omega)
                              · have hc72 := dec_f hc72
                                refine w_skip ?_
                                refine w_seq ?_
                                refine w_region ?_
                                refine o_rd (r_move (by simp only [ev, envOf, val_set, ofValue, ofCell, ↓reduceIte, Nat.reduceEqDiff] <;> rfl)) rfl rfl ?_
                                refine o_rd (r_move (by simp only [ev, envOf, val_set, ofValue, ofCell, ↓reduceIte, Nat.reduceEqDiff] <;> rfl)) rfl rfl ?_
                                refine o_rd (r_remW (a := an) (b := bn) (by assumption) (by simp only [ev, envOf, val_set, ofValue, ofCell, ↓reduceIte, Nat.reduceEqDiff] <;> rfl) (by simp only [ev, envOf, val_set, ofValue, ofCell, ↓reduceIte, Nat.reduceEqDiff] <;> rfl)) rfl rfl ?_
                                refine o_cl rfl rfl (by simp only [evs, ev, envOf, val_set, ofValue, ofCell, ↓reduceIte, Nat.reduceEqDiff] <;> rfl) rfl (number_fin ho W3 (Int.tmod (an) (bn))) rfl rfl ?_; rintro _ H76 ⟨rfl, X76⟩
                                have W76 := X76.wf; have E76 := E3.trans X76
                                have A1 := X76.keep _ _ A1
                                have A2 := X76.keep _ _ A2
                                have A3 := X76.keep _ _ A3
                                have n76 := X76.n
                                refine o_st W76 (by simp only [ev, envOf, val_set, ofValue, ofCell, ↓reduceIte, Nat.reduceEqDiff] <;> rfl) (by simp only [ev, envOf, val_set, ofValue, ofCell, ↓reduceIte, Nat.reduceEqDiff] <;> rfl) A3 Ty.csz24 rfl (Nat.le_of_ble_eq_true rfl) (by rfl) rfl rfl ?_; intro H77 n77 W77 A77 K77
                                have A77 : H77.at H2.n = some (.row [.int .i64 (1), .int .i64 (Int.tmod (an) (bn)), .nils] 24 false none) := A77
                                have E77 := Ext.put W0 E76 (by have := E76.n; omega) K77 n77 W77
                                have A1 := K77.own A1 (by omega)
                                have A2 := K77.own A2 (by omega)
                                refine o_rd (r_assign (by simp only [ev, envOf, val_set, ofValue, ofCell, ↓reduceIte, Nat.reduceEqDiff] <;> rfl)) rfl rfl ?_
                                refine o_nil ?_
                                have hr78 : H77.read (.mt H2.n) 0 3 = some [.int .i64 (1), .int .i64 (Int.tmod (an) (bn)), .nils] := read_mt A77 (Nat.le_of_ble_eq_true rfl)
                                refine w_ret ⟨.inr rfl, rfl, .tup [.agg [.int .i64 (1), .int .i64 (Int.tmod (an) (bn)), .nils], .int .i64 (0)], (show resultA Try.prog [.cell 6 24, .tmp 7] _ = _ by simp only [resultA, resultsA, envOf, val_set, ↓reduceIte, Nat.reduceEqDiff, Option.map_some, hr78, Ty.agg24, Ty.csz24] <;> rfl), ?_⟩
                                refine ⟨?_, E77⟩; (try subst hc4); (try subst hc23); first | (simp [binS, outS, sumsS, hc4, hg7, hc8, hc23, hc26, hc30, hc34, hc38, hc42, hc46, hc50, hc54, hc68, hc69, hc72]; done) | (simp [binS, outS, hc4, hg7, hc8, hc23, hc26, hc30, hc34, hc38, hc42, hc46, hc50, hc54, hc68, hc69, hc72]; done) | (subst_vars; simp [binS, outS, sumsS, hc4, hg7, hc8, hc23, hc26, hc30, hc34, hc38, hc42, hc46, hc50, hc54, hc68, hc69, hc72]; done) | (exfalso; omega)
                          · have hc68 := dec_f hc68
                            refine w_skip ?_
                            refine w_seq ?_
                            refine w_region ?_
                            refine o_rd (r_build (cs := [.int .i64 (0), .int .i64 (0), .nils]) Ty.zero24 Ty.pl24 (by simp only [evParts, ev, envOf, val_set, ofValue, ofCell, ↓reduceIte, Nat.reduceEqDiff] <;> rfl) rfl) rfl rfl ?_
                            refine o_st W3 (by simp only [ev, envOf, val_set, ofValue, ofCell, ↓reduceIte, Nat.reduceEqDiff] <;> rfl) (by simp only [ev, envOf, val_set, ofValue, ofCell, ↓reduceIte, Nat.reduceEqDiff] <;> rfl) A3 Ty.csz24 rfl (Nat.le_of_ble_eq_true rfl) (by rfl) rfl rfl ?_; intro H79 n79 W79 A79 K79
                            have A79 : H79.at H2.n = some (.row [.int .i64 (0), .int .i64 (0), .nils] 24 false none) := A79
                            have E79 := Ext.put W0 E3 (by have := E3.n; omega) K79 n79 W79
                            have A1 := K79.own A1 (by omega)
                            have A2 := K79.own A2 (by omega)
                            refine o_rd (r_assign (by simp only [ev, envOf, val_set, ofValue, ofCell, ↓reduceIte, Nat.reduceEqDiff] <;> rfl)) rfl rfl ?_
                            refine o_nil ?_
                            have hr80 : H79.read (.mt H2.n) 0 3 = some [.int .i64 (0), .int .i64 (0), .nils] := read_mt A79 (Nat.le_of_ble_eq_true rfl)
                            refine w_ret ⟨.inr rfl, rfl, .tup [.agg [.int .i64 (0), .int .i64 (0), .nils], .int .i64 (5)], (show resultA Try.prog [.cell 6 24, .tmp 7] _ = _ by simp only [resultA, resultsA, envOf, val_set, ↓reduceIte, Nat.reduceEqDiff, Option.map_some, hr80, Ty.agg24, Ty.csz24] <;> rfl), ?_⟩
                            refine ⟨?_, E79⟩; (try subst hc4); (try subst hc23); first | (simp [binS, outS, sumsS, hc4, hg7, hc8, hc23, hc26, hc30, hc34, hc38, hc42, hc46, hc50, hc54, hc68]; done) | (simp [binS, outS, hc4, hg7, hc8, hc23, hc26, hc30, hc34, hc38, hc42, hc46, hc50, hc54, hc68]; done) | (subst_vars; simp [binS, outS, sumsS, hc4, hg7, hc8, hc23, hc26, hc30, hc34, hc38, hc42, hc46, hc50, hc54, hc68]; done) | (exfalso; omega)
    · have hg7 := dec_t hg7
      refine o_sk rfl ((wanted_of (b := true) rfl rfl rfl (by simp only [val_set, ↓reduceIte, Nat.reduceEqDiff] <;> rfl)).trans rfl) ?_
      refine o_sk rfl ((wanted_of (b := true) rfl rfl rfl (by simp only [val_set, ↓reduceIte, Nat.reduceEqDiff] <;> rfl)).trans rfl) ?_
      refine o_rd (r_pick (t := true) (by simp only [ev, envOf, val_set, ofValue, ofCell, ↓reduceIte, Nat.reduceEqDiff] <;> rfl) (fun _ => (by simp only [ev, envOf, val_set, ofValue, ofCell, ↓reduceIte, Nat.reduceEqDiff] <;> rfl)) (fun h => by cases h)) rfl rfl ?_
      refine o_nil ?_
      refine w_cond (t := true) (by simp only [ev, envOf, val_set, ofValue, ofCell, ↓reduceIte, Nat.reduceEqDiff] <;> rfl) (fun _ => ?_) (fun h => by cases h)
      refine w_seq ?_
      refine w_seq ?_
      refine w_region ?_
      refine o_rd (r_fieldAddr Ty.fo24_0 (by simp only [ev, envOf, val_set, ofValue, ofCell, ↓reduceIte, Nat.reduceEqDiff] <;> rfl)) rfl rfl ?_
      refine o_rd (r_load1 (v := .int .i64 (ak)) Ty.agg3 (by simp only [ev, envOf, val_set, ofValue, ofCell, ↓reduceIte, Nat.reduceEqDiff] <;> rfl) (read_mt A1 (Nat.le_of_ble_eq_true rfl))) rfl rfl ?_
      refine o_rd (r_ne (a := ak) (b := 1) (by simp only [ev, envOf, val_set, ofValue, ofCell, ↓reduceIte, Nat.reduceEqDiff] <;> rfl) (by simp only [ev, envOf, val_set, ofValue, ofCell, ↓reduceIte, Nat.reduceEqDiff] <;> rfl)) rfl rfl ?_
      refine o_rd (r_move (by simp only [ev, envOf, val_set, ofValue, ofCell, ↓reduceIte, Nat.reduceEqDiff] <;> rfl)) rfl rfl ?_
      cases hg81 : (decide (ak ≠ 1) : Bool)
      · have hg81 := dec_fn hg81
        refine o_sk rfl ((wanted_of (b := false) rfl rfl rfl (by simp only [val_set, ↓reduceIte, Nat.reduceEqDiff] <;> rfl)).trans rfl) ?_
        refine o_sk rfl ((wanted_of (b := false) rfl rfl rfl (by simp only [val_set, ↓reduceIte, Nat.reduceEqDiff] <;> rfl)).trans rfl) ?_
        refine o_sk rfl ((wanted_of (b := false) rfl rfl rfl (by simp only [val_set, ↓reduceIte, Nat.reduceEqDiff] <;> rfl)).trans rfl) ?_
        refine o_rd (r_pick (t := false) (by simp only [ev, envOf, val_set, ofValue, ofCell, ↓reduceIte, Nat.reduceEqDiff] <;> rfl) (fun h => by cases h) (fun _ => (by simp only [ev, envOf, val_set, ofValue, ofCell, ↓reduceIte, Nat.reduceEqDiff] <;> rfl))) rfl rfl ?_
        refine o_rd (r_move (by simp only [ev, envOf, val_set, ofValue, ofCell, ↓reduceIte, Nat.reduceEqDiff] <;> rfl)) rfl rfl ?_
        refine o_sk rfl ((wanted_of (b := false) rfl rfl rfl (by simp only [val_set, ↓reduceIte, Nat.reduceEqDiff] <;> rfl)).trans rfl) ?_
        refine o_sk rfl ((wanted_of (b := false) rfl rfl rfl (by simp only [val_set, ↓reduceIte, Nat.reduceEqDiff] <;> rfl)).trans rfl) ?_
        refine o_sk rfl ((wanted_of (b := false) rfl rfl rfl (by simp only [val_set, ↓reduceIte, Nat.reduceEqDiff] <;> rfl)).trans rfl) ?_
        refine o_rd (r_pick (t := false) (by simp only [ev, envOf, val_set, ofValue, ofCell, ↓reduceIte, Nat.reduceEqDiff] <;> rfl) (fun h => by cases h) (fun _ => (by simp only [ev, envOf, val_set, ofValue, ofCell, ↓reduceIte, Nat.reduceEqDiff] <;> rfl))) rfl rfl ?_
        refine o_nil ?_
        refine w_cond (t := false) (by simp only [ev, envOf, val_set, ofValue, ofCell, ↓reduceIte, Nat.reduceEqDiff] <;> rfl) (fun h => by cases h) (fun _ => ?_)
        refine w_skip ?_
        refine w_seq ?_
        refine w_region ?_
        refine o_rd (r_fieldAddr Ty.fo24_1 (by simp only [ev, envOf, val_set, ofValue, ofCell, ↓reduceIte, Nat.reduceEqDiff] <;> rfl)) rfl rfl ?_
        refine o_rd (r_load1 (v := .int .i64 (an)) Ty.agg3 (by simp only [ev, envOf, val_set, ofValue, ofCell, ↓reduceIte, Nat.reduceEqDiff] <;> rfl) (read_mt A1 (Nat.le_of_ble_eq_true rfl))) rfl rfl ?_
        refine o_rd (r_fieldAddr Ty.fo24_1 (by simp only [ev, envOf, val_set, ofValue, ofCell, ↓reduceIte, Nat.reduceEqDiff] <;> rfl)) rfl rfl ?_
        refine o_rd (r_load1 (v := .int .i64 (bn)) Ty.agg3 (by simp only [ev, envOf, val_set, ofValue, ofCell, ↓reduceIte, Nat.reduceEqDiff] <;> rfl) (read_mt A2 (Nat.le_of_ble_eq_true rfl))) rfl rfl ?_
        refine o_rd (r_eq (a := an) (b := bn) (by simp only [ev, envOf, val_set, ofValue, ofCell, ↓reduceIte, Nat.reduceEqDiff] <;> rfl) (by simp only [ev, envOf, val_set, ofValue, ofCell, ↓reduceIte, Nat.reduceEqDiff] <;> rfl)) rfl rfl ?_
        refine o_rd (r_move (by simp only [ev, envOf, val_set, ofValue, ofCell, ↓reduceIte, Nat.reduceEqDiff] <;> rfl)) rfl rfl ?_
        refine o_rd (r_eq (a := op) (b := 21) (by simp only [ev, envOf, val_set, ofValue, ofCell, ↓reduceIte, Nat.reduceEqDiff] <;> rfl) (by simp only [ev, envOf, val_set, ofValue, ofCell, ↓reduceIte, Nat.reduceEqDiff] <;> rfl)) rfl rfl ?_
        refine o_rd (r_eqB Try.underlying4 (by simp only [ev, envOf, val_set, ofValue, ofCell, ↓reduceIte, Nat.reduceEqDiff] <;> rfl) (by simp only [ev, envOf, val_set, ofValue, ofCell, ↓reduceIte, Nat.reduceEqDiff] <;> rfl)) rfl rfl ?_
        refine o_cl rfl rfl (by simp only [evs, ev, envOf, val_set, ofValue, ofCell, ↓reduceIte, Nat.reduceEqDiff] <;> rfl) rfl (truth_fin ho W3 ((decide (an = bn)) == (decide (op = 21)))) rfl rfl ?_; rintro _ H82 ⟨rfl, X82⟩
        have W82 := X82.wf; have E82 := E3.trans X82
        have A1 := X82.keep _ _ A1
        have A2 := X82.keep _ _ A2
        have A3 := X82.keep _ _ A3
        have n82 := X82.n
        refine o_st W82 (by simp only [ev, envOf, val_set, ofValue, ofCell, ↓reduceIte, Nat.reduceEqDiff] <;> rfl) (by simp only [ev, envOf, val_set, ofValue, ofCell, ↓reduceIte, Nat.reduceEqDiff] <;> rfl) A3 Ty.csz24 rfl (Nat.le_of_ble_eq_true rfl) (by rfl) rfl rfl ?_; intro H83 n83 W83 A83 K83
        have A83 : H83.at H2.n = some (.row [.int .i64 (2), .int .i64 (flagN ((decide (an = bn)) == (decide (op = 21)))), .nils] 24 false none) := A83
        have E83 := Ext.put W0 E82 (by have := E82.n; omega) K83 n83 W83
        have A1 := K83.own A1 (by omega)
        have A2 := K83.own A2 (by omega)
        refine o_rd (r_assign (by simp only [ev, envOf, val_set, ofValue, ofCell, ↓reduceIte, Nat.reduceEqDiff] <;> rfl)) rfl rfl ?_
        refine o_nil ?_
        have hr84 : H83.read (.mt H2.n) 0 3 = some [.int .i64 (2), .int .i64 (flagN ((decide (an = bn)) == (decide (op = 21)))), .nils] := read_mt A83 (Nat.le_of_ble_eq_true rfl)
        refine w_ret ⟨.inr rfl, rfl, .tup [.agg [.int .i64 (2), .int .i64 (flagN ((decide (an = bn)) == (decide (op = 21)))), .nils], .int .i64 (0)], (show resultA Try.prog [.cell 6 24, .tmp 7] _ = _ by simp only [resultA, resultsA, envOf, val_set, ↓reduceIte, Nat.reduceEqDiff, Option.map_some, hr84, Ty.agg24, Ty.csz24] <;> rfl), ?_⟩
        refine ⟨?_, E83⟩; (try subst hc4); (try subst hg81); first | (simp [binS, outS, sumsS, hc4, hg7, hg81]; done) | (simp [binS, outS, hc4, hg7, hg81]; done) | (subst_vars; simp [binS, outS, sumsS, hc4, hg7, hg81]; done) | (exfalso; omega)
      · have hg81 := dec_t hg81
        refine o_rd (r_fieldAddr Ty.fo24_0 (by simp only [ev, envOf, val_set, ofValue, ofCell, ↓reduceIte, Nat.reduceEqDiff] <;> rfl)) rfl ((wanted_of (b := true) rfl rfl rfl (by simp only [val_set, ↓reduceIte, Nat.reduceEqDiff] <;> rfl)).trans rfl) ?_
        refine o_rd (r_load1 (v := .int .i64 (ak)) Ty.agg3 (by simp only [ev, envOf, val_set, ofValue, ofCell, ↓reduceIte, Nat.reduceEqDiff] <;> rfl) (read_mt A1 (Nat.le_of_ble_eq_true rfl))) rfl ((wanted_of (b := true) rfl rfl rfl (by simp only [val_set, ↓reduceIte, Nat.reduceEqDiff] <;> rfl)).trans rfl) ?_
        refine o_rd (r_ne (a := ak) (b := 2) (by simp only [ev, envOf, val_set, ofValue, ofCell, ↓reduceIte, Nat.reduceEqDiff] <;> rfl) (by simp only [ev, envOf, val_set, ofValue, ofCell, ↓reduceIte, Nat.reduceEqDiff] <;> rfl)) rfl ((wanted_of (b := true) rfl rfl rfl (by simp only [val_set, ↓reduceIte, Nat.reduceEqDiff] <;> rfl)).trans rfl) ?_
        refine o_rd (r_pick (t := true) (by simp only [ev, envOf, val_set, ofValue, ofCell, ↓reduceIte, Nat.reduceEqDiff] <;> rfl) (fun _ => (by simp only [ev, envOf, val_set, ofValue, ofCell, ↓reduceIte, Nat.reduceEqDiff] <;> rfl)) (fun h => by cases h)) rfl rfl ?_
        refine o_rd (r_move (by simp only [ev, envOf, val_set, ofValue, ofCell, ↓reduceIte, Nat.reduceEqDiff] <;> rfl)) rfl rfl ?_
        cases hg85 : (decide (ak ≠ 2) : Bool)
        · have hg85 := dec_fn hg85
          refine o_sk rfl ((wanted_of (b := false) rfl rfl rfl (by simp only [val_set, ↓reduceIte, Nat.reduceEqDiff] <;> rfl)).trans rfl) ?_
          refine o_sk rfl ((wanted_of (b := false) rfl rfl rfl (by simp only [val_set, ↓reduceIte, Nat.reduceEqDiff] <;> rfl)).trans rfl) ?_
          refine o_sk rfl ((wanted_of (b := false) rfl rfl rfl (by simp only [val_set, ↓reduceIte, Nat.reduceEqDiff] <;> rfl)).trans rfl) ?_
          refine o_rd (r_pick (t := false) (by simp only [ev, envOf, val_set, ofValue, ofCell, ↓reduceIte, Nat.reduceEqDiff] <;> rfl) (fun h => by cases h) (fun _ => (by simp only [ev, envOf, val_set, ofValue, ofCell, ↓reduceIte, Nat.reduceEqDiff] <;> rfl))) rfl rfl ?_
          refine o_nil ?_
          refine w_cond (t := false) (by simp only [ev, envOf, val_set, ofValue, ofCell, ↓reduceIte, Nat.reduceEqDiff] <;> rfl) (fun h => by cases h) (fun _ => ?_)
          refine w_skip ?_
          refine w_seq ?_
          refine w_region ?_
          refine o_rd (r_fieldAddr Ty.fo24_1 (by simp only [ev, envOf, val_set, ofValue, ofCell, ↓reduceIte, Nat.reduceEqDiff] <;> rfl)) rfl rfl ?_
          refine o_rd (r_load1 (v := .int .i64 (an)) Ty.agg3 (by simp only [ev, envOf, val_set, ofValue, ofCell, ↓reduceIte, Nat.reduceEqDiff] <;> rfl) (read_mt A1 (Nat.le_of_ble_eq_true rfl))) rfl rfl ?_
          refine o_rd (r_fieldAddr Ty.fo24_1 (by simp only [ev, envOf, val_set, ofValue, ofCell, ↓reduceIte, Nat.reduceEqDiff] <;> rfl)) rfl rfl ?_
          refine o_rd (r_load1 (v := .int .i64 (bn)) Ty.agg3 (by simp only [ev, envOf, val_set, ofValue, ofCell, ↓reduceIte, Nat.reduceEqDiff] <;> rfl) (read_mt A2 (Nat.le_of_ble_eq_true rfl))) rfl rfl ?_
          refine o_rd (r_eq (a := an) (b := bn) (by simp only [ev, envOf, val_set, ofValue, ofCell, ↓reduceIte, Nat.reduceEqDiff] <;> rfl) (by simp only [ev, envOf, val_set, ofValue, ofCell, ↓reduceIte, Nat.reduceEqDiff] <;> rfl)) rfl rfl ?_
          refine o_rd (r_move (by simp only [ev, envOf, val_set, ofValue, ofCell, ↓reduceIte, Nat.reduceEqDiff] <;> rfl)) rfl rfl ?_
          refine o_rd (r_eq (a := op) (b := 21) (by simp only [ev, envOf, val_set, ofValue, ofCell, ↓reduceIte, Nat.reduceEqDiff] <;> rfl) (by simp only [ev, envOf, val_set, ofValue, ofCell, ↓reduceIte, Nat.reduceEqDiff] <;> rfl)) rfl rfl ?_
          refine o_rd (r_eqB Try.underlying4 (by simp only [ev, envOf, val_set, ofValue, ofCell, ↓reduceIte, Nat.reduceEqDiff] <;> rfl) (by simp only [ev, envOf, val_set, ofValue, ofCell, ↓reduceIte, Nat.reduceEqDiff] <;> rfl)) rfl rfl ?_
          refine o_cl rfl rfl (by simp only [evs, ev, envOf, val_set, ofValue, ofCell, ↓reduceIte, Nat.reduceEqDiff] <;> rfl) rfl (truth_fin ho W3 ((decide (an = bn)) == (decide (op = 21)))) rfl rfl ?_; rintro _ H86 ⟨rfl, X86⟩
          have W86 := X86.wf; have E86 := E3.trans X86
          have A1 := X86.keep _ _ A1
          have A2 := X86.keep _ _ A2
          have A3 := X86.keep _ _ A3
          have n86 := X86.n
          refine o_st W86 (by simp only [ev, envOf, val_set, ofValue, ofCell, ↓reduceIte, Nat.reduceEqDiff] <;> rfl) (by simp only [ev, envOf, val_set, ofValue, ofCell, ↓reduceIte, Nat.reduceEqDiff] <;> rfl) A3 Ty.csz24 rfl (Nat.le_of_ble_eq_true rfl) (by rfl) rfl rfl ?_; intro H87 n87 W87 A87 K87
          have A87 : H87.at H2.n = some (.row [.int .i64 (2), .int .i64 (flagN ((decide (an = bn)) == (decide (op = 21)))), .nils] 24 false none) := A87
          have E87 := Ext.put W0 E86 (by have := E86.n; omega) K87 n87 W87
          have A1 := K87.own A1 (by omega)
          have A2 := K87.own A2 (by omega)
          refine o_rd (r_assign (by simp only [ev, envOf, val_set, ofValue, ofCell, ↓reduceIte, Nat.reduceEqDiff] <;> rfl)) rfl rfl ?_
          refine o_nil ?_
          have hr88 : H87.read (.mt H2.n) 0 3 = some [.int .i64 (2), .int .i64 (flagN ((decide (an = bn)) == (decide (op = 21)))), .nils] := read_mt A87 (Nat.le_of_ble_eq_true rfl)
          refine w_ret ⟨.inr rfl, rfl, .tup [.agg [.int .i64 (2), .int .i64 (flagN ((decide (an = bn)) == (decide (op = 21)))), .nils], .int .i64 (0)], (show resultA Try.prog [.cell 6 24, .tmp 7] _ = _ by simp only [resultA, resultsA, envOf, val_set, ↓reduceIte, Nat.reduceEqDiff, Option.map_some, hr88, Ty.agg24, Ty.csz24] <;> rfl), ?_⟩
          refine ⟨?_, E87⟩; (try subst hc4); (try subst hg81); (try subst hg85); first | (simp [binS, outS, sumsS, hc4, hg7, hg81, hg85]; done) | (simp [binS, outS, hc4, hg7, hg81, hg85]; done) | (subst_vars; simp [binS, outS, sumsS, hc4, hg7, hg81, hg85]; done) | (exfalso; omega)
        · have hg85 := dec_t hg85
          refine o_rd (r_fieldAddr Ty.fo24_0 (by simp only [ev, envOf, val_set, ofValue, ofCell, ↓reduceIte, Nat.reduceEqDiff] <;> rfl)) rfl ((wanted_of (b := true) rfl rfl rfl (by simp only [val_set, ↓reduceIte, Nat.reduceEqDiff] <;> rfl)).trans rfl) ?_
          refine o_rd (r_load1 (v := .int .i64 (ak)) Ty.agg3 (by simp only [ev, envOf, val_set, ofValue, ofCell, ↓reduceIte, Nat.reduceEqDiff] <;> rfl) (read_mt A1 (Nat.le_of_ble_eq_true rfl))) rfl ((wanted_of (b := true) rfl rfl rfl (by simp only [val_set, ↓reduceIte, Nat.reduceEqDiff] <;> rfl)).trans rfl) ?_
          refine o_rd (r_ne (a := ak) (b := 5) (by simp only [ev, envOf, val_set, ofValue, ofCell, ↓reduceIte, Nat.reduceEqDiff] <;> rfl) (by simp only [ev, envOf, val_set, ofValue, ofCell, ↓reduceIte, Nat.reduceEqDiff] <;> rfl)) rfl ((wanted_of (b := true) rfl rfl rfl (by simp only [val_set, ↓reduceIte, Nat.reduceEqDiff] <;> rfl)).trans rfl) ?_
          refine o_rd (r_pick (t := true) (by simp only [ev, envOf, val_set, ofValue, ofCell, ↓reduceIte, Nat.reduceEqDiff] <;> rfl) (fun _ => (by simp only [ev, envOf, val_set, ofValue, ofCell, ↓reduceIte, Nat.reduceEqDiff] <;> rfl)) (fun h => by cases h)) rfl rfl ?_
          refine o_nil ?_
          refine w_cond (by simp only [ev, envOf, val_set, ofValue, ofCell, ↓reduceIte, Nat.reduceEqDiff] <;> rfl) (fun hc89 => ?_) (fun hc89 => ?_)
          · have hc89 := dec_t hc89
            refine w_seq ?_
            refine w_region ?_
            refine o_rd (r_build (cs := [.int .i64 (0), .int .i64 (0), .nils]) Ty.zero24 Ty.pl24 (by simp only [evParts, ev, envOf, val_set, ofValue, ofCell, ↓reduceIte, Nat.reduceEqDiff] <;> rfl) rfl) rfl rfl ?_
            refine o_st W3 (by simp only [ev, envOf, val_set, ofValue, ofCell, ↓reduceIte, Nat.reduceEqDiff] <;> rfl) (by simp only [ev, envOf, val_set, ofValue, ofCell, ↓reduceIte, Nat.reduceEqDiff] <;> rfl) A3 Ty.csz24 rfl (Nat.le_of_ble_eq_true rfl) (by rfl) rfl rfl ?_; intro H90 n90 W90 A90 K90
            have A90 : H90.at H2.n = some (.row [.int .i64 (0), .int .i64 (0), .nils] 24 false none) := A90
            have E90 := Ext.put W0 E3 (by have := E3.n; omega) K90 n90 W90
            have A1 := K90.own A1 (by omega)
            have A2 := K90.own A2 (by omega)
            refine o_rd (r_assign (by simp only [ev, envOf, val_set, ofValue, ofCell, ↓reduceIte, Nat.reduceEqDiff] <;> rfl)) rfl rfl ?_
            refine o_nil ?_
            have hr91 : H90.read (.mt H2.n) 0 3 = some [.int .i64 (0), .int .i64 (0), .nils] := read_mt A90 (Nat.le_of_ble_eq_true rfl)
            refine w_ret ⟨.inr rfl, rfl, .tup [.agg [.int .i64 (0), .int .i64 (0), .nils], .int .i64 (5)], (show resultA Try.prog [.cell 6 24, .tmp 7] _ = _ by simp only [resultA, resultsA, envOf, val_set, ↓reduceIte, Nat.reduceEqDiff, Option.map_some, hr91, Ty.agg24, Ty.csz24] <;> rfl), ?_⟩
            refine ⟨?_, E90⟩; (try subst hc4); (try subst hg81); (try subst hg85); (try subst hc89); first | (simp [binS, outS, sumsS, hc4, hg7, hg81, hg85, hc89]; done) | (simp [binS, outS, hc4, hg7, hg81, hg85, hc89]; done) | (subst_vars; simp [binS, outS, sumsS, hc4, hg7, hg81, hg85, hc89]; done) | (exfalso; omega)
          · have hc89 := dec_fn hc89
            refine w_skip ?_
            refine w_seq ?_
            refine w_region ?_
            refine o_rd (r_fieldAddr Ty.fo24_1 (by simp only [ev, envOf, val_set, ofValue, ofCell, ↓reduceIte, Nat.reduceEqDiff] <;> rfl)) rfl rfl ?_
            refine o_rd (r_load1 (v := .int .i64 (an)) Ty.agg3 (by simp only [ev, envOf, val_set, ofValue, ofCell, ↓reduceIte, Nat.reduceEqDiff] <;> rfl) (read_mt A1 (Nat.le_of_ble_eq_true rfl))) rfl rfl ?_
            refine o_rd (r_fieldAddr Ty.fo24_1 (by simp only [ev, envOf, val_set, ofValue, ofCell, ↓reduceIte, Nat.reduceEqDiff] <;> rfl)) rfl rfl ?_
            refine o_rd (r_load1 (v := .int .i64 (bn)) Ty.agg3 (by simp only [ev, envOf, val_set, ofValue, ofCell, ↓reduceIte, Nat.reduceEqDiff] <;> rfl) (read_mt A2 (Nat.le_of_ble_eq_true rfl))) rfl rfl ?_
            refine o_rd (r_eq (a := an) (b := bn) (by simp only [ev, envOf, val_set, ofValue, ofCell, ↓reduceIte, Nat.reduceEqDiff] <;> rfl) (by simp only [ev, envOf, val_set, ofValue, ofCell, ↓reduceIte, Nat.reduceEqDiff] <;> rfl)) rfl rfl ?_
            refine o_rd (r_move (by simp only [ev, envOf, val_set, ofValue, ofCell, ↓reduceIte, Nat.reduceEqDiff] <;> rfl)) rfl rfl ?_
            refine o_rd (r_eq (a := op) (b := 21) (by simp only [ev, envOf, val_set, ofValue, ofCell, ↓reduceIte, Nat.reduceEqDiff] <;> rfl) (by simp only [ev, envOf, val_set, ofValue, ofCell, ↓reduceIte, Nat.reduceEqDiff] <;> rfl)) rfl rfl ?_
            refine o_rd (r_eqB Try.underlying4 (by simp only [ev, envOf, val_set, ofValue, ofCell, ↓reduceIte, Nat.reduceEqDiff] <;> rfl) (by simp only [ev, envOf, val_set, ofValue, ofCell, ↓reduceIte, Nat.reduceEqDiff] <;> rfl)) rfl rfl ?_
            refine o_cl rfl rfl (by simp only [evs, ev, envOf, val_set, ofValue, ofCell, ↓reduceIte, Nat.reduceEqDiff] <;> rfl) rfl (truth_fin ho W3 ((decide (an = bn)) == (decide (op = 21)))) rfl rfl ?_; rintro _ H92 ⟨rfl, X92⟩
            have W92 := X92.wf; have E92 := E3.trans X92
            have A1 := X92.keep _ _ A1
            have A2 := X92.keep _ _ A2
            have A3 := X92.keep _ _ A3
            have n92 := X92.n
            refine o_st W92 (by simp only [ev, envOf, val_set, ofValue, ofCell, ↓reduceIte, Nat.reduceEqDiff] <;> rfl) (by simp only [ev, envOf, val_set, ofValue, ofCell, ↓reduceIte, Nat.reduceEqDiff] <;> rfl) A3 Ty.csz24 rfl (Nat.le_of_ble_eq_true rfl) (by rfl) rfl rfl ?_; intro H93 n93 W93 A93 K93
            have A93 : H93.at H2.n = some (.row [.int .i64 (2), .int .i64 (flagN ((decide (an = bn)) == (decide (op = 21)))), .nils] 24 false none) := A93
            have E93 := Ext.put W0 E92 (by have := E92.n; omega) K93 n93 W93
            have A1 := K93.own A1 (by omega)
            have A2 := K93.own A2 (by omega)
            refine o_rd (r_assign (by simp only [ev, envOf, val_set, ofValue, ofCell, ↓reduceIte, Nat.reduceEqDiff] <;> rfl)) rfl rfl ?_
            refine o_nil ?_
            have hr94 : H93.read (.mt H2.n) 0 3 = some [.int .i64 (2), .int .i64 (flagN ((decide (an = bn)) == (decide (op = 21)))), .nils] := read_mt A93 (Nat.le_of_ble_eq_true rfl)
            refine w_ret ⟨.inr rfl, rfl, .tup [.agg [.int .i64 (2), .int .i64 (flagN ((decide (an = bn)) == (decide (op = 21)))), .nils], .int .i64 (0)], (show resultA Try.prog [.cell 6 24, .tmp 7] _ = _ by simp only [resultA, resultsA, envOf, val_set, ↓reduceIte, Nat.reduceEqDiff, Option.map_some, hr94, Ty.agg24, Ty.csz24] <;> rfl), ?_⟩
            refine ⟨?_, E93⟩; (try subst hc4); (try subst hg81); (try subst hg85); (try subst hc89); first | (simp [binS, outS, sumsS, hc4, hg7, hg81, hg85, hc89]; done) | (simp [binS, outS, hc4, hg7, hg81, hg85, hc89]; done) | (subst_vars; simp [binS, outS, sumsS, hc4, hg7, hg81, hg85, hc89]; done) | (exfalso; omega)
set_option maxRecDepth 100000 in
set_option maxHeartbeats 4000000 in
theorem un_fin (ho : NoOrcBut [9] orc) {H0 : AH} (W0 : Wf H0) (op k n : Int) (sa : AV) : Fin Try.prog orc 24 [.int .i64 (op), .agg [.int .i64 (k), .int .i64 (n), sa]] H0 (fun r H' => r = outS (unS op k n) ∧ Ext H0 H') := by
  have E0 := Ext.refl W0
  refine fin_of Try.func24 rfl (by rw [Try.ntmps24]; simp) (ho _ rfl _ _) ?_
  rw [Try.ntmps24]
  refine w_seq ?_
  refine w_region ?_
  refine o_nw W0 (a_box (by simp only [ev, envOf, val_set, ofValue, ofCell, ↓reduceIte, Nat.reduceEqDiff] <;> rfl)) rfl rfl rfl (by simp) ?_; intro H1 n1 W1 X1 A1
  have A1 : H1.at H0.n = some (.row [.int .i64 (k), .int .i64 (n), sa] 24 false none) := A1
  have E1 := E0.trans X1
  refine o_nw W1 (a_alloc Ty.zero24) rfl rfl rfl (by simp) ?_; intro H2 n2 W2 X2 A2
  have A2 : H2.at H1.n = some (.row [.int .i64 (0), .int .i64 (0), .nils] 24 false none) := A2
  have E2 := E1.trans X2
  have A1 := X2.keep _ _ A1
  refine o_rd (r_assign (by simp only [ev, envOf, val_set, ofValue, ofCell, ↓reduceIte, Nat.reduceEqDiff] <;> rfl)) rfl rfl ?_
  refine o_nil ?_
  refine w_seq ?_
  refine w_block ?_
  refine w_seq ?_
  refine w_region ?_
  refine o_rd (r_move (by simp only [ev, envOf, val_set, ofValue, ofCell, ↓reduceIte, Nat.reduceEqDiff] <;> rfl)) rfl rfl ?_
  refine o_rd (r_eq (a := op) (b := 1) (by simp only [ev, envOf, val_set, ofValue, ofCell, ↓reduceIte, Nat.reduceEqDiff] <;> rfl) (by simp only [ev, envOf, val_set, ofValue, ofCell, ↓reduceIte, Nat.reduceEqDiff] <;> rfl)) rfl rfl ?_
  refine o_rd (r_move (by simp only [ev, envOf, val_set, ofValue, ofCell, ↓reduceIte, Nat.reduceEqDiff] <;> rfl)) rfl rfl ?_
  cases hg3 : (decide (op = 1) : Bool)
  · have hg3 := dec_f hg3
    refine o_sk rfl ((wanted_of (b := false) rfl rfl rfl (by simp only [val_set, ↓reduceIte, Nat.reduceEqDiff] <;> rfl)).trans rfl) ?_
    refine o_sk rfl ((wanted_of (b := false) rfl rfl rfl (by simp only [val_set, ↓reduceIte, Nat.reduceEqDiff] <;> rfl)).trans rfl) ?_
    refine o_sk rfl ((wanted_of (b := false) rfl rfl rfl (by simp only [val_set, ↓reduceIte, Nat.reduceEqDiff] <;> rfl)).trans rfl) ?_
    refine o_rd (r_pick (t := false) (by simp only [ev, envOf, val_set, ofValue, ofCell, ↓reduceIte, Nat.reduceEqDiff] <;> rfl) (fun h => by cases h) (fun _ => (by simp only [ev, envOf, val_set, ofValue, ofCell, ↓reduceIte, Nat.reduceEqDiff] <;> rfl))) rfl rfl ?_
    refine o_rd (r_assign (by simp only [ev, envOf, val_set, ofValue, ofCell, ↓reduceIte, Nat.reduceEqDiff] <;> rfl)) rfl rfl ?_
    refine o_nil ?_
    refine w_cond (t := false) (by simp only [ev, envOf, val_set, ofValue, ofCell, ↓reduceIte, Nat.reduceEqDiff] <;> rfl) (fun h => by cases h) (fun _ => ?_)
    refine w_seq ?_
    refine w_region ?_
    refine o_rd (r_move (by simp only [ev, envOf, val_set, ofValue, ofCell, ↓reduceIte, Nat.reduceEqDiff] <;> rfl)) rfl rfl ?_
    refine o_rd (r_eq (a := op) (b := 2) (by simp only [ev, envOf, val_set, ofValue, ofCell, ↓reduceIte, Nat.reduceEqDiff] <;> rfl) (by simp only [ev, envOf, val_set, ofValue, ofCell, ↓reduceIte, Nat.reduceEqDiff] <;> rfl)) rfl rfl ?_
    refine o_rd (r_move (by simp only [ev, envOf, val_set, ofValue, ofCell, ↓reduceIte, Nat.reduceEqDiff] <;> rfl)) rfl rfl ?_
    cases hg4 : (decide (op = 2) : Bool)
    · have hg4 := dec_f hg4
      refine o_sk rfl ((wanted_of (b := false) rfl rfl rfl (by simp only [val_set, ↓reduceIte, Nat.reduceEqDiff] <;> rfl)).trans rfl) ?_
      refine o_sk rfl ((wanted_of (b := false) rfl rfl rfl (by simp only [val_set, ↓reduceIte, Nat.reduceEqDiff] <;> rfl)).trans rfl) ?_
      refine o_sk rfl ((wanted_of (b := false) rfl rfl rfl (by simp only [val_set, ↓reduceIte, Nat.reduceEqDiff] <;> rfl)).trans rfl) ?_
      refine o_rd (r_pick (t := false) (by simp only [ev, envOf, val_set, ofValue, ofCell, ↓reduceIte, Nat.reduceEqDiff] <;> rfl) (fun h => by cases h) (fun _ => (by simp only [ev, envOf, val_set, ofValue, ofCell, ↓reduceIte, Nat.reduceEqDiff] <;> rfl))) rfl rfl ?_
      refine o_rd (r_assign (by simp only [ev, envOf, val_set, ofValue, ofCell, ↓reduceIte, Nat.reduceEqDiff] <;> rfl)) rfl rfl ?_
      refine o_nil ?_
      refine w_cond (t := false) (by simp only [ev, envOf, val_set, ofValue, ofCell, ↓reduceIte, Nat.reduceEqDiff] <;> rfl) (fun h => by cases h) (fun _ => ?_)
      refine w_skip ?_
      refine w_seq ?_
      refine w_region ?_
      refine o_rd (r_build (cs := [.int .i64 (0), .int .i64 (0), .nils]) Ty.zero24 Ty.pl24 (by simp only [evParts, ev, envOf, val_set, ofValue, ofCell, ↓reduceIte, Nat.reduceEqDiff] <;> rfl) rfl) rfl rfl ?_
      refine o_st W2 (by simp only [ev, envOf, val_set, ofValue, ofCell, ↓reduceIte, Nat.reduceEqDiff] <;> rfl) (by simp only [ev, envOf, val_set, ofValue, ofCell, ↓reduceIte, Nat.reduceEqDiff] <;> rfl) A2 Ty.csz24 rfl (Nat.le_of_ble_eq_true rfl) (by rfl) rfl rfl ?_; intro H5 n5 W5 A5 K5
      have A5 : H5.at H1.n = some (.row [.int .i64 (0), .int .i64 (0), .nils] 24 false none) := A5
      have E5 := Ext.put W0 E2 (by have := E2.n; omega) K5 n5 W5
      have A1 := K5.own A1 (by omega)
      refine o_rd (r_assign (by simp only [ev, envOf, val_set, ofValue, ofCell, ↓reduceIte, Nat.reduceEqDiff] <;> rfl)) rfl rfl ?_
      refine o_nil ?_
      have hr6 : H5.read (.mt H1.n) 0 3 = some [.int .i64 (0), .int .i64 (0), .nils] := read_mt A5 (Nat.le_of_ble_eq_true rfl)
      refine w_ret ⟨.inr rfl, rfl, .tup [.agg [.int .i64 (0), .int .i64 (0), .nils], .int .i64 (5)], (show resultA Try.prog [.cell 4 24, .tmp 5] _ = _ by simp only [resultA, resultsA, envOf, val_set, ↓reduceIte, Nat.reduceEqDiff, Option.map_some, hr6, Ty.agg24, Ty.csz24] <;> rfl), ?_⟩
      refine ⟨?_, E5⟩; first | (simp [unS, outS, hg3, hg4]; done) | (simp [unS, outS, hg3, hg4]; done) | (subst_vars; simp [unS, outS, hg3, hg4]; done) | (exfalso; omega)
    · have hg4 := dec_t hg4
      refine o_rd (r_fieldAddr Ty.fo24_0 (by simp only [ev, envOf, val_set, ofValue, ofCell, ↓reduceIte, Nat.reduceEqDiff] <;> rfl)) rfl ((wanted_of (b := true) rfl rfl rfl (by simp only [val_set, ↓reduceIte, Nat.reduceEqDiff] <;> rfl)).trans rfl) ?_
      refine o_rd (r_load1 (v := .int .i64 (k)) Ty.agg3 (by simp only [ev, envOf, val_set, ofValue, ofCell, ↓reduceIte, Nat.reduceEqDiff] <;> rfl) (read_mt A1 (Nat.le_of_ble_eq_true rfl))) rfl ((wanted_of (b := true) rfl rfl rfl (by simp only [val_set, ↓reduceIte, Nat.reduceEqDiff] <;> rfl)).trans rfl) ?_
      refine o_rd (r_eq (a := k) (b := 2) (by simp only [ev, envOf, val_set, ofValue, ofCell, ↓reduceIte, Nat.reduceEqDiff] <;> rfl) (by simp only [ev, envOf, val_set, ofValue, ofCell, ↓reduceIte, Nat.reduceEqDiff] <;> rfl)) rfl ((wanted_of (b := true) rfl rfl rfl (by simp only [val_set, ↓reduceIte, Nat.reduceEqDiff] <;> rfl)).trans rfl) ?_
      refine o_rd (r_pick (t := true) (by simp only [ev, envOf, val_set, ofValue, ofCell, ↓reduceIte, Nat.reduceEqDiff] <;> rfl) (fun _ => (by simp only [ev, envOf, val_set, ofValue, ofCell, ↓reduceIte, Nat.reduceEqDiff] <;> rfl)) (fun h => by cases h)) rfl rfl ?_
      refine o_rd (r_assign (by simp only [ev, envOf, val_set, ofValue, ofCell, ↓reduceIte, Nat.reduceEqDiff] <;> rfl)) rfl rfl ?_
      refine o_nil ?_
      refine w_cond (by simp only [ev, envOf, val_set, ofValue, ofCell, ↓reduceIte, Nat.reduceEqDiff] <;> rfl) (fun hc7 => ?_) (fun hc7 => ?_)
      · have hc7 := dec_t hc7
        refine w_seq ?_
        refine w_region ?_
        refine o_rd (r_fieldAddr Ty.fo24_1 (by simp only [ev, envOf, val_set, ofValue, ofCell, ↓reduceIte, Nat.reduceEqDiff] <;> rfl)) rfl rfl ?_
        refine o_rd (r_load1 (v := .int .i64 (n)) Ty.agg3 (by simp only [ev, envOf, val_set, ofValue, ofCell, ↓reduceIte, Nat.reduceEqDiff] <;> rfl) (read_mt A1 (Nat.le_of_ble_eq_true rfl))) rfl rfl ?_
        refine o_rd (r_eq (a := n) (b := 0) (by simp only [ev, envOf, val_set, ofValue, ofCell, ↓reduceIte, Nat.reduceEqDiff] <;> rfl) (by simp only [ev, envOf, val_set, ofValue, ofCell, ↓reduceIte, Nat.reduceEqDiff] <;> rfl)) rfl rfl ?_
        refine o_cl rfl rfl (by simp only [evs, ev, envOf, val_set, ofValue, ofCell, ↓reduceIte, Nat.reduceEqDiff] <;> rfl) rfl (flag_fin ho W2 (decide (n = 0))) rfl rfl ?_; rintro _ H8 ⟨rfl, X8⟩
        have W8 := X8.wf; have E8 := E2.trans X8
        have A1 := X8.keep _ _ A1
        have A2 := X8.keep _ _ A2
        have n8 := X8.n
        refine o_st W8 (by simp only [ev, envOf, val_set, ofValue, ofCell, ↓reduceIte, Nat.reduceEqDiff] <;> rfl) (by simp only [ev, envOf, val_set, ofValue, ofCell, ↓reduceIte, Nat.reduceEqDiff] <;> rfl) A2 Ty.csz24 rfl (Nat.le_of_ble_eq_true rfl) (by rfl) rfl rfl ?_; intro H9 n9 W9 A9 K9
        have A9 : H9.at H1.n = some (.row [.int .i64 (2), .int .i64 (flagN (decide (n = 0))), .nils] 24 false none) := A9
        have E9 := Ext.put W0 E8 (by have := E8.n; omega) K9 n9 W9
        have A1 := K9.own A1 (by omega)
        refine o_rd (r_assign (by simp only [ev, envOf, val_set, ofValue, ofCell, ↓reduceIte, Nat.reduceEqDiff] <;> rfl)) rfl rfl ?_
        refine o_nil ?_
        have hr10 : H9.read (.mt H1.n) 0 3 = some [.int .i64 (2), .int .i64 (flagN (decide (n = 0))), .nils] := read_mt A9 (Nat.le_of_ble_eq_true rfl)
        refine w_ret ⟨.inr rfl, rfl, .tup [.agg [.int .i64 (2), .int .i64 (flagN (decide (n = 0))), .nils], .int .i64 (0)], (show resultA Try.prog [.cell 4 24, .tmp 5] _ = _ by simp only [resultA, resultsA, envOf, val_set, ↓reduceIte, Nat.reduceEqDiff, Option.map_some, hr10, Ty.agg24, Ty.csz24] <;> rfl), ?_⟩
        refine ⟨?_, E9⟩; first | (simp [unS, outS, hg3, hg4, hc7]; done) | (simp [unS, outS, hg3, hg4, hc7]; done) | (subst_vars; simp [unS, outS, hg3, hg4, hc7]; done) | (exfalso; omega)
      · have hc7 := dec_f hc7
        refine w_skip ?_
        refine w_seq ?_
        refine w_region ?_
        refine o_rd (r_build (cs := [.int .i64 (0), .int .i64 (0), .nils]) Ty.zero24 Ty.pl24 (by simp only [evParts, ev, envOf, val_set, ofValue, ofCell, ↓reduceIte, Nat.reduceEqDiff] <;> rfl) rfl) rfl rfl ?_
        refine o_st W2 (by simp only [ev, envOf, val_set, ofValue, ofCell, ↓reduceIte, Nat.reduceEqDiff] <;> rfl) (by simp only [ev, envOf, val_set, ofValue, ofCell, ↓reduceIte, Nat.reduceEqDiff] <;> rfl) A2 Ty.csz24 rfl (Nat.le_of_ble_eq_true rfl) (by rfl) rfl rfl ?_; intro H11 n11 W11 A11 K11
        have A11 : H11.at H1.n = some (.row [.int .i64 (0), .int .i64 (0), .nils] 24 false none) := A11
        have E11 := Ext.put W0 E2 (by have := E2.n; omega) K11 n11 W11
        have A1 := K11.own A1 (by omega)
        refine o_rd (r_assign (by simp only [ev, envOf, val_set, ofValue, ofCell, ↓reduceIte, Nat.reduceEqDiff] <;> rfl)) rfl rfl ?_
        refine o_nil ?_
        have hr12 : H11.read (.mt H1.n) 0 3 = some [.int .i64 (0), .int .i64 (0), .nils] := read_mt A11 (Nat.le_of_ble_eq_true rfl)
        refine w_ret ⟨.inr rfl, rfl, .tup [.agg [.int .i64 (0), .int .i64 (0), .nils], .int .i64 (5)], (show resultA Try.prog [.cell 4 24, .tmp 5] _ = _ by simp only [resultA, resultsA, envOf, val_set, ↓reduceIte, Nat.reduceEqDiff, Option.map_some, hr12, Ty.agg24, Ty.csz24] <;> rfl), ?_⟩
        refine ⟨?_, E11⟩; first | (simp [unS, outS, hg3, hg4, hc7]; done) | (simp [unS, outS, hg3, hg4, hc7]; done) | (subst_vars; simp [unS, outS, hg3, hg4, hc7]; done) | (exfalso; omega)
  · have hg3 := dec_t hg3
    refine o_rd (r_fieldAddr Ty.fo24_0 (by simp only [ev, envOf, val_set, ofValue, ofCell, ↓reduceIte, Nat.reduceEqDiff] <;> rfl)) rfl ((wanted_of (b := true) rfl rfl rfl (by simp only [val_set, ↓reduceIte, Nat.reduceEqDiff] <;> rfl)).trans rfl) ?_
    refine o_rd (r_load1 (v := .int .i64 (k)) Ty.agg3 (by simp only [ev, envOf, val_set, ofValue, ofCell, ↓reduceIte, Nat.reduceEqDiff] <;> rfl) (read_mt A1 (Nat.le_of_ble_eq_true rfl))) rfl ((wanted_of (b := true) rfl rfl rfl (by simp only [val_set, ↓reduceIte, Nat.reduceEqDiff] <;> rfl)).trans rfl) ?_
    refine o_rd (r_eq (a := k) (b := 1) (by simp only [ev, envOf, val_set, ofValue, ofCell, ↓reduceIte, Nat.reduceEqDiff] <;> rfl) (by simp only [ev, envOf, val_set, ofValue, ofCell, ↓reduceIte, Nat.reduceEqDiff] <;> rfl)) rfl ((wanted_of (b := true) rfl rfl rfl (by simp only [val_set, ↓reduceIte, Nat.reduceEqDiff] <;> rfl)).trans rfl) ?_
    refine o_rd (r_pick (t := true) (by simp only [ev, envOf, val_set, ofValue, ofCell, ↓reduceIte, Nat.reduceEqDiff] <;> rfl) (fun _ => (by simp only [ev, envOf, val_set, ofValue, ofCell, ↓reduceIte, Nat.reduceEqDiff] <;> rfl)) (fun h => by cases h)) rfl rfl ?_
    refine o_rd (r_assign (by simp only [ev, envOf, val_set, ofValue, ofCell, ↓reduceIte, Nat.reduceEqDiff] <;> rfl)) rfl rfl ?_
    refine o_nil ?_
    refine w_cond (by simp only [ev, envOf, val_set, ofValue, ofCell, ↓reduceIte, Nat.reduceEqDiff] <;> rfl) (fun hc13 => ?_) (fun hc13 => ?_)
    · have hc13 := dec_t hc13
      refine w_seq ?_
      refine w_region ?_
      refine o_rd (r_fieldAddr Ty.fo24_1 (by simp only [ev, envOf, val_set, ofValue, ofCell, ↓reduceIte, Nat.reduceEqDiff] <;> rfl)) rfl rfl ?_
      refine o_rd (r_load1 (v := .int .i64 (n)) Ty.agg3 (by simp only [ev, envOf, val_set, ofValue, ofCell, ↓reduceIte, Nat.reduceEqDiff] <;> rfl) (read_mt A1 (Nat.le_of_ble_eq_true rfl))) rfl rfl ?_
      refine o_rd (r_negW (a := n) (by simp only [ev, envOf, val_set, ofValue, ofCell, ↓reduceIte, Nat.reduceEqDiff] <;> rfl)) rfl rfl ?_
      refine o_rd (r_build (cs := [.int .i64 (1), .int .i64 (wrapA .i64 (0 - n)), .nils]) Ty.zero24 Ty.pl24 (by simp only [evParts, ev, envOf, val_set, ofValue, ofCell, ↓reduceIte, Nat.reduceEqDiff] <;> rfl) rfl) rfl rfl ?_
      refine o_st W2 (by simp only [ev, envOf, val_set, ofValue, ofCell, ↓reduceIte, Nat.reduceEqDiff] <;> rfl) (by simp only [ev, envOf, val_set, ofValue, ofCell, ↓reduceIte, Nat.reduceEqDiff] <;> rfl) A2 Ty.csz24 rfl (Nat.le_of_ble_eq_true rfl) (by rfl) rfl rfl ?_; intro H14 n14 W14 A14 K14
      have A14 : H14.at H1.n = some (.row [.int .i64 (1), .int .i64 (wrapA .i64 (0 - n)), .nils] 24 false none) := A14
      have E14 := Ext.put W0 E2 (by have := E2.n; omega) K14 n14 W14
      have A1 := K14.own A1 (by omega)
      refine o_rd (r_assign (by simp only [ev, envOf, val_set, ofValue, ofCell, ↓reduceIte, Nat.reduceEqDiff] <;> rfl)) rfl rfl ?_
      refine o_nil ?_
      have hr15 : H14.read (.mt H1.n) 0 3 = some [.int .i64 (1), .int .i64 (wrapA .i64 (0 - n)), .nils] := read_mt A14 (Nat.le_of_ble_eq_true rfl)
      refine w_ret ⟨.inr rfl, rfl, .tup [.agg [.int .i64 (1), .int .i64 (wrapA .i64 (0 - n)), .nils], .int .i64 (0)], (show resultA Try.prog [.cell 4 24, .tmp 5] _ = _ by simp only [resultA, resultsA, envOf, val_set, ↓reduceIte, Nat.reduceEqDiff, Option.map_some, hr15, Ty.agg24, Ty.csz24] <;> rfl), ?_⟩
      refine ⟨?_, E14⟩; first | (simp [unS, outS, hg3, hc13]; done) | (simp [unS, outS, hg3, hc13]; done) | (subst_vars; simp [unS, outS, hg3, hc13]; done) | (exfalso; omega)
    · have hc13 := dec_f hc13
      refine w_seq ?_
      refine w_region ?_
      refine o_rd (r_move (by simp only [ev, envOf, val_set, ofValue, ofCell, ↓reduceIte, Nat.reduceEqDiff] <;> rfl)) rfl rfl ?_
      refine o_rd (r_eq (a := op) (b := 2) (by simp only [ev, envOf, val_set, ofValue, ofCell, ↓reduceIte, Nat.reduceEqDiff] <;> rfl) (by simp only [ev, envOf, val_set, ofValue, ofCell, ↓reduceIte, Nat.reduceEqDiff] <;> rfl)) rfl rfl ?_
      refine o_rd (r_move (by simp only [ev, envOf, val_set, ofValue, ofCell, ↓reduceIte, Nat.reduceEqDiff] <;> rfl)) rfl rfl ?_
      cases hg16 : (decide (op = 2) : Bool)
      · have hg16 := dec_f hg16
        refine o_sk rfl ((wanted_of (b := false) rfl rfl rfl (by simp only [val_set, ↓reduceIte, Nat.reduceEqDiff] <;> rfl)).trans rfl) ?_
        refine o_sk rfl ((wanted_of (b := false) rfl rfl rfl (by simp only [val_set, ↓reduceIte, Nat.reduceEqDiff] <;> rfl)).trans rfl) ?_
        refine o_sk rfl ((wanted_of (b := false) rfl rfl rfl (by simp only [val_set, ↓reduceIte, Nat.reduceEqDiff] <;> rfl)).trans rfl) ?_
        refine o_rd (r_pick (t := false) (by simp only [ev, envOf, val_set, ofValue, ofCell, ↓reduceIte, Nat.reduceEqDiff] <;> rfl) (fun h => by cases h) (fun _ => (by simp only [ev, envOf, val_set, ofValue, ofCell, ↓reduceIte, Nat.reduceEqDiff] <;> rfl))) rfl rfl ?_
        refine o_rd (r_assign (by simp only [ev, envOf, val_set, ofValue, ofCell, ↓reduceIte, Nat.reduceEqDiff] <;> rfl)) rfl rfl ?_
        refine o_nil ?_
        refine w_cond (t := false) (by simp only [ev, envOf, val_set, ofValue, ofCell, ↓reduceIte, Nat.reduceEqDiff] <;> rfl) (fun h => by cases h) (fun _ => ?_)
        refine w_skip ?_
        refine w_seq ?_
        refine w_region ?_
        refine o_rd (r_build (cs := [.int .i64 (0), .int .i64 (0), .nils]) Ty.zero24 Ty.pl24 (by simp only [evParts, ev, envOf, val_set, ofValue, ofCell, ↓reduceIte, Nat.reduceEqDiff] <;> rfl) rfl) rfl rfl ?_
        refine o_st W2 (by simp only [ev, envOf, val_set, ofValue, ofCell, ↓reduceIte, Nat.reduceEqDiff] <;> rfl) (by simp only [ev, envOf, val_set, ofValue, ofCell, ↓reduceIte, Nat.reduceEqDiff] <;> rfl) A2 Ty.csz24 rfl (Nat.le_of_ble_eq_true rfl) (by rfl) rfl rfl ?_; intro H17 n17 W17 A17 K17
        have A17 : H17.at H1.n = some (.row [.int .i64 (0), .int .i64 (0), .nils] 24 false none) := A17
        have E17 := Ext.put W0 E2 (by have := E2.n; omega) K17 n17 W17
        have A1 := K17.own A1 (by omega)
        refine o_rd (r_assign (by simp only [ev, envOf, val_set, ofValue, ofCell, ↓reduceIte, Nat.reduceEqDiff] <;> rfl)) rfl rfl ?_
        refine o_nil ?_
        have hr18 : H17.read (.mt H1.n) 0 3 = some [.int .i64 (0), .int .i64 (0), .nils] := read_mt A17 (Nat.le_of_ble_eq_true rfl)
        refine w_ret ⟨.inr rfl, rfl, .tup [.agg [.int .i64 (0), .int .i64 (0), .nils], .int .i64 (5)], (show resultA Try.prog [.cell 4 24, .tmp 5] _ = _ by simp only [resultA, resultsA, envOf, val_set, ↓reduceIte, Nat.reduceEqDiff, Option.map_some, hr18, Ty.agg24, Ty.csz24] <;> rfl), ?_⟩
        refine ⟨?_, E17⟩; first | (simp [unS, outS, hg3, hc13, hg16]; done) | (simp [unS, outS, hg3, hc13, hg16]; done) | (subst_vars; simp [unS, outS, hg3, hc13, hg16]; done) | (exfalso; omega)
      · have hg16 := dec_t hg16
        refine o_rd (r_fieldAddr Ty.fo24_0 (by simp only [ev, envOf, val_set, ofValue, ofCell, ↓reduceIte, Nat.reduceEqDiff] <;> rfl)) rfl ((wanted_of (b := true) rfl rfl rfl (by simp only [val_set, ↓reduceIte, Nat.reduceEqDiff] <;> rfl)).trans rfl) ?_
        refine o_rd (r_load1 (v := .int .i64 (k)) Ty.agg3 (by simp only [ev, envOf, val_set, ofValue, ofCell, ↓reduceIte, Nat.reduceEqDiff] <;> rfl) (read_mt A1 (Nat.le_of_ble_eq_true rfl))) rfl ((wanted_of (b := true) rfl rfl rfl (by simp only [val_set, ↓reduceIte, Nat.reduceEqDiff] <;> rfl)).trans rfl) ?_
        refine o_rd (r_eq (a := k) (b := 2) (by simp only [ev, envOf, val_set, ofValue, ofCell, ↓reduceIte, Nat.reduceEqDiff] <;> rfl) (by simp only [ev, envOf, val_set, ofValue, ofCell, ↓reduceIte, Nat.reduceEqDiff] <;> rfl)) rfl ((wanted_of (b := true) rfl rfl rfl (by simp only [val_set, ↓reduceIte, Nat.reduceEqDiff] <;> rfl)).trans rfl) ?_
        refine o_rd (r_pick (t := true) (by simp only [ev, envOf, val_set, ofValue, ofCell, ↓reduceIte, Nat.reduceEqDiff] <;> rfl) (fun _ => (by simp only [ev, envOf, val_set, ofValue, ofCell, ↓reduceIte, Nat.reduceEqDiff] <;> rfl)) (fun h => by cases h)) rfl rfl ?_
        refine o_rd (r_assign (by simp only [ev, envOf, val_set, ofValue, ofCell, ↓reduceIte, Nat.reduceEqDiff] <;> rfl)) rfl rfl ?_
        refine o_nil ?_
        refine w_cond (by simp only [ev, envOf, val_set, ofValue, ofCell, ↓reduceIte, Nat.reduceEqDiff] <;> rfl) (fun hc19 => ?_) (fun hc19 => ?_)
        · have hc19 := dec_t hc19
          refine w_seq ?_
          refine w_region ?_
          refine o_rd (r_fieldAddr Ty.fo24_1 (by simp only [ev, envOf, val_set, ofValue, ofCell, ↓reduceIte, Nat.reduceEqDiff] <;> rfl)) rfl rfl ?_
          refine o_rd (r_load1 (v := .int .i64 (n)) Ty.agg3 (by simp only [ev, envOf, val_set, ofValue, ofCell, ↓reduceIte, Nat.reduceEqDiff] <;> rfl) (read_mt A1 (Nat.le_of_ble_eq_true rfl))) rfl rfl ?_
          refine o_rd (r_eq (a := n) (b := 0) (by simp only [ev, envOf, val_set, ofValue, ofCell, ↓reduceIte, Nat.reduceEqDiff] <;> rfl) (by simp only [ev, envOf, val_set, ofValue, ofCell, ↓reduceIte, Nat.reduceEqDiff] <;> rfl)) rfl rfl ?_
          refine o_cl rfl rfl (by simp only [evs, ev, envOf, val_set, ofValue, ofCell, ↓reduceIte, Nat.reduceEqDiff] <;> rfl) rfl (flag_fin ho W2 (decide (n = 0))) rfl rfl ?_; rintro _ H20 ⟨rfl, X20⟩
          have W20 := X20.wf; have E20 := E2.trans X20
          have A1 := X20.keep _ _ A1
          have A2 := X20.keep _ _ A2
          have n20 := X20.n
          refine o_st W20 (by simp only [ev, envOf, val_set, ofValue, ofCell, ↓reduceIte, Nat.reduceEqDiff] <;> rfl) (by simp only [ev, envOf, val_set, ofValue, ofCell, ↓reduceIte, Nat.reduceEqDiff] <;> rfl) A2 Ty.csz24 rfl (Nat.le_of_ble_eq_true rfl) (by rfl) rfl rfl ?_; intro H21 n21 W21 A21 K21
          have A21 : H21.at H1.n = some (.row [.int .i64 (2), .int .i64 (flagN (decide (n = 0))), .nils] 24 false none) := A21
          have E21 := Ext.put W0 E20 (by have := E20.n; omega) K21 n21 W21
          have A1 := K21.own A1 (by omega)
          refine o_rd (r_assign (by simp only [ev, envOf, val_set, ofValue, ofCell, ↓reduceIte, Nat.reduceEqDiff] <;> rfl)) rfl rfl ?_
          refine o_nil ?_
          have hr22 : H21.read (.mt H1.n) 0 3 = some [.int .i64 (2), .int .i64 (flagN (decide (n = 0))), .nils] := read_mt A21 (Nat.le_of_ble_eq_true rfl)
          refine w_ret ⟨.inr rfl, rfl, .tup [.agg [.int .i64 (2), .int .i64 (flagN (decide (n = 0))), .nils], .int .i64 (0)], (show resultA Try.prog [.cell 4 24, .tmp 5] _ = _ by simp only [resultA, resultsA, envOf, val_set, ↓reduceIte, Nat.reduceEqDiff, Option.map_some, hr22, Ty.agg24, Ty.csz24] <;> rfl), ?_⟩
          refine ⟨?_, E21⟩; first | (simp [unS, outS, hg3, hc13, hg16, hc19]; done) | (simp [unS, outS, hg3, hc13, hg16, hc19]; done) | (subst_vars; simp [unS, outS, hg3, hc13, hg16, hc19]; done) | (exfalso; omega)
        · have hc19 := dec_f hc19
          refine w_skip ?_
          refine w_seq ?_
          refine w_region ?_
          refine o_rd (r_build (cs := [.int .i64 (0), .int .i64 (0), .nils]) Ty.zero24 Ty.pl24 (by simp only [evParts, ev, envOf, val_set, ofValue, ofCell, ↓reduceIte, Nat.reduceEqDiff] <;> rfl) rfl) rfl rfl ?_
          refine o_st W2 (by simp only [ev, envOf, val_set, ofValue, ofCell, ↓reduceIte, Nat.reduceEqDiff] <;> rfl) (by simp only [ev, envOf, val_set, ofValue, ofCell, ↓reduceIte, Nat.reduceEqDiff] <;> rfl) A2 Ty.csz24 rfl (Nat.le_of_ble_eq_true rfl) (by rfl) rfl rfl ?_; intro H23 n23 W23 A23 K23
          have A23 : H23.at H1.n = some (.row [.int .i64 (0), .int .i64 (0), .nils] 24 false none) := A23
          have E23 := Ext.put W0 E2 (by have := E2.n; omega) K23 n23 W23
          have A1 := K23.own A1 (by omega)
          refine o_rd (r_assign (by simp only [ev, envOf, val_set, ofValue, ofCell, ↓reduceIte, Nat.reduceEqDiff] <;> rfl)) rfl rfl ?_
          refine o_nil ?_
          have hr24 : H23.read (.mt H1.n) 0 3 = some [.int .i64 (0), .int .i64 (0), .nils] := read_mt A23 (Nat.le_of_ble_eq_true rfl)
          refine w_ret ⟨.inr rfl, rfl, .tup [.agg [.int .i64 (0), .int .i64 (0), .nils], .int .i64 (5)], (show resultA Try.prog [.cell 4 24, .tmp 5] _ = _ by simp only [resultA, resultsA, envOf, val_set, ↓reduceIte, Nat.reduceEqDiff, Option.map_some, hr24, Ty.agg24, Ty.csz24] <;> rfl), ?_⟩
          refine ⟨?_, E23⟩; first | (simp [unS, outS, hg3, hc13, hg16, hc19]; done) | (simp [unS, outS, hg3, hc13, hg16, hc19]; done) | (subst_vars; simp [unS, outS, hg3, hc13, hg16, hc19]; done) | (exfalso; omega)
set_option maxRecDepth 100000 in
set_option maxHeartbeats 4000000 in
theorem unR_fin (ho : NoOrcBut [9] orc) {H0 : AH} (W0 : Wf H0) (op k n : Int) (sa : AV) : Fin Try.prog orc 26 [.int .i64 (op), .agg [.int .i64 (k), .int .i64 (n), sa]] H0 (fun r H' => r = outS (unS op k n) ∧ Ext H0 H') := by
  have E0 := Ext.refl W0
  refine fin_of Try.func26 rfl (by rw [Try.ntmps26]; simp) (ho _ rfl _ _) ?_
  rw [Try.ntmps26]
  refine w_seq ?_
  refine w_region ?_
  refine o_nw W0 (a_box (by simp only [ev, envOf, val_set, ofValue, ofCell, ↓reduceIte, Nat.reduceEqDiff] <;> rfl)) rfl rfl rfl (by simp) ?_; intro H1 n1 W1 X1 A1
  have A1 : H1.at H0.n = some (.row [.int .i64 (k), .int .i64 (n), sa] 24 false none) := A1
  have E1 := E0.trans X1
  refine o_nw W1 (a_alloc Ty.zero24) rfl rfl rfl (by simp) ?_; intro H2 n2 W2 X2 A2
  have A2 : H2.at H1.n = some (.row [.int .i64 (0), .int .i64 (0), .nils] 24 false none) := A2
  have E2 := E1.trans X2
  have A1 := X2.keep _ _ A1
  refine o_rd (r_assign (by simp only [ev, envOf, val_set, ofValue, ofCell, ↓reduceIte, Nat.reduceEqDiff] <;> rfl)) rfl rfl ?_
  refine o_nil ?_
  refine w_seq ?_
  refine w_seq ?_
  refine w_region ?_
  refine o_rd (r_move (by simp only [ev, envOf, val_set, ofValue, ofCell, ↓reduceIte, Nat.reduceEqDiff] <;> rfl)) rfl rfl ?_
  refine o_rd (r_eq (a := op) (b := 1) (by simp only [ev, envOf, val_set, ofValue, ofCell, ↓reduceIte, Nat.reduceEqDiff] <;> rfl) (by simp only [ev, envOf, val_set, ofValue, ofCell, ↓reduceIte, Nat.reduceEqDiff] <;> rfl)) rfl rfl ?_
  refine o_rd (r_move (by simp only [ev, envOf, val_set, ofValue, ofCell, ↓reduceIte, Nat.reduceEqDiff] <;> rfl)) rfl rfl ?_
  cases hg3 : (decide (op = 1) : Bool)
  · have hg3 := dec_f hg3
    refine o_sk rfl ((wanted_of (b := false) rfl rfl rfl (by simp only [val_set, ↓reduceIte, Nat.reduceEqDiff] <;> rfl)).trans rfl) ?_
    refine o_sk rfl ((wanted_of (b := false) rfl rfl rfl (by simp only [val_set, ↓reduceIte, Nat.reduceEqDiff] <;> rfl)).trans rfl) ?_
    refine o_sk rfl ((wanted_of (b := false) rfl rfl rfl (by simp only [val_set, ↓reduceIte, Nat.reduceEqDiff] <;> rfl)).trans rfl) ?_
    refine o_rd (r_pick (t := false) (by simp only [ev, envOf, val_set, ofValue, ofCell, ↓reduceIte, Nat.reduceEqDiff] <;> rfl) (fun h => by cases h) (fun _ => (by simp only [ev, envOf, val_set, ofValue, ofCell, ↓reduceIte, Nat.reduceEqDiff] <;> rfl))) rfl rfl ?_
    refine o_nil ?_
    refine w_cond (t := false) (by simp only [ev, envOf, val_set, ofValue, ofCell, ↓reduceIte, Nat.reduceEqDiff] <;> rfl) (fun h => by cases h) (fun _ => ?_)
    refine w_skip ?_
    refine w_seq ?_
    refine w_seq ?_
    refine w_region ?_
    refine o_rd (r_move (by simp only [ev, envOf, val_set, ofValue, ofCell, ↓reduceIte, Nat.reduceEqDiff] <;> rfl)) rfl rfl ?_
    refine o_rd (r_eq (a := op) (b := 2) (by simp only [ev, envOf, val_set, ofValue, ofCell, ↓reduceIte, Nat.reduceEqDiff] <;> rfl) (by simp only [ev, envOf, val_set, ofValue, ofCell, ↓reduceIte, Nat.reduceEqDiff] <;> rfl)) rfl rfl ?_
    refine o_rd (r_move (by simp only [ev, envOf, val_set, ofValue, ofCell, ↓reduceIte, Nat.reduceEqDiff] <;> rfl)) rfl rfl ?_
    cases hg4 : (decide (op = 2) : Bool)
    · have hg4 := dec_f hg4
      refine o_sk rfl ((wanted_of (b := false) rfl rfl rfl (by simp only [val_set, ↓reduceIte, Nat.reduceEqDiff] <;> rfl)).trans rfl) ?_
      refine o_sk rfl ((wanted_of (b := false) rfl rfl rfl (by simp only [val_set, ↓reduceIte, Nat.reduceEqDiff] <;> rfl)).trans rfl) ?_
      refine o_sk rfl ((wanted_of (b := false) rfl rfl rfl (by simp only [val_set, ↓reduceIte, Nat.reduceEqDiff] <;> rfl)).trans rfl) ?_
      refine o_rd (r_pick (t := false) (by simp only [ev, envOf, val_set, ofValue, ofCell, ↓reduceIte, Nat.reduceEqDiff] <;> rfl) (fun h => by cases h) (fun _ => (by simp only [ev, envOf, val_set, ofValue, ofCell, ↓reduceIte, Nat.reduceEqDiff] <;> rfl))) rfl rfl ?_
      refine o_nil ?_
      refine w_cond (t := false) (by simp only [ev, envOf, val_set, ofValue, ofCell, ↓reduceIte, Nat.reduceEqDiff] <;> rfl) (fun h => by cases h) (fun _ => ?_)
      refine w_skip ?_
      refine w_seq ?_
      refine w_region ?_
      refine o_rd (r_build (cs := [.int .i64 (0), .int .i64 (0), .nils]) Ty.zero24 Ty.pl24 (by simp only [evParts, ev, envOf, val_set, ofValue, ofCell, ↓reduceIte, Nat.reduceEqDiff] <;> rfl) rfl) rfl rfl ?_
      refine o_st W2 (by simp only [ev, envOf, val_set, ofValue, ofCell, ↓reduceIte, Nat.reduceEqDiff] <;> rfl) (by simp only [ev, envOf, val_set, ofValue, ofCell, ↓reduceIte, Nat.reduceEqDiff] <;> rfl) A2 Ty.csz24 rfl (Nat.le_of_ble_eq_true rfl) (by rfl) rfl rfl ?_; intro H5 n5 W5 A5 K5
      have A5 : H5.at H1.n = some (.row [.int .i64 (0), .int .i64 (0), .nils] 24 false none) := A5
      have E5 := Ext.put W0 E2 (by have := E2.n; omega) K5 n5 W5
      have A1 := K5.own A1 (by omega)
      refine o_rd (r_assign (by simp only [ev, envOf, val_set, ofValue, ofCell, ↓reduceIte, Nat.reduceEqDiff] <;> rfl)) rfl rfl ?_
      refine o_nil ?_
      have hr6 : H5.read (.mt H1.n) 0 3 = some [.int .i64 (0), .int .i64 (0), .nils] := read_mt A5 (Nat.le_of_ble_eq_true rfl)
      refine w_ret ⟨.inr rfl, rfl, .tup [.agg [.int .i64 (0), .int .i64 (0), .nils], .int .i64 (5)], (show resultA Try.prog [.cell 4 24, .tmp 5] _ = _ by simp only [resultA, resultsA, envOf, val_set, ↓reduceIte, Nat.reduceEqDiff, Option.map_some, hr6, Ty.agg24, Ty.csz24] <;> rfl), ?_⟩
      refine ⟨?_, E5⟩; first | (simp [unS, outS, hg3, hg4]; done) | (simp [unS, outS, hg3, hg4]; done) | (subst_vars; simp [unS, outS, hg3, hg4]; done) | (exfalso; omega)
    · have hg4 := dec_t hg4
      refine o_rd (r_fieldAddr Ty.fo24_0 (by simp only [ev, envOf, val_set, ofValue, ofCell, ↓reduceIte, Nat.reduceEqDiff] <;> rfl)) rfl ((wanted_of (b := true) rfl rfl rfl (by simp only [val_set, ↓reduceIte, Nat.reduceEqDiff] <;> rfl)).trans rfl) ?_
      refine o_rd (r_load1 (v := .int .i64 (k)) Ty.agg3 (by simp only [ev, envOf, val_set, ofValue, ofCell, ↓reduceIte, Nat.reduceEqDiff] <;> rfl) (read_mt A1 (Nat.le_of_ble_eq_true rfl))) rfl ((wanted_of (b := true) rfl rfl rfl (by simp only [val_set, ↓reduceIte, Nat.reduceEqDiff] <;> rfl)).trans rfl) ?_
      refine o_rd (r_eq (a := k) (b := 2) (by simp only [ev, envOf, val_set, ofValue, ofCell, ↓reduceIte, Nat.reduceEqDiff] <;> rfl) (by simp only [ev, envOf, val_set, ofValue, ofCell, ↓reduceIte, Nat.reduceEqDiff] <;> rfl)) rfl ((wanted_of (b := true) rfl rfl rfl (by simp only [val_set, ↓reduceIte, Nat.reduceEqDiff] <;> rfl)).trans rfl) ?_
      refine o_rd (r_pick (t := true) (by simp only [ev, envOf, val_set, ofValue, ofCell, ↓reduceIte, Nat.reduceEqDiff] <;> rfl) (fun _ => (by simp only [ev, envOf, val_set, ofValue, ofCell, ↓reduceIte, Nat.reduceEqDiff] <;> rfl)) (fun h => by cases h)) rfl rfl ?_
      refine o_nil ?_
      refine w_cond (by simp only [ev, envOf, val_set, ofValue, ofCell, ↓reduceIte, Nat.reduceEqDiff] <;> rfl) (fun hc7 => ?_) (fun hc7 => ?_)
      · have hc7 := dec_t hc7
        refine w_seq ?_
        refine w_region ?_
        refine o_rd (r_fieldAddr Ty.fo24_1 (by simp only [ev, envOf, val_set, ofValue, ofCell, ↓reduceIte, Nat.reduceEqDiff] <;> rfl)) rfl rfl ?_
        refine o_rd (r_load1 (v := .int .i64 (n)) Ty.agg3 (by simp only [ev, envOf, val_set, ofValue, ofCell, ↓reduceIte, Nat.reduceEqDiff] <;> rfl) (read_mt A1 (Nat.le_of_ble_eq_true rfl))) rfl rfl ?_
        refine o_rd (r_eq (a := n) (b := 0) (by simp only [ev, envOf, val_set, ofValue, ofCell, ↓reduceIte, Nat.reduceEqDiff] <;> rfl) (by simp only [ev, envOf, val_set, ofValue, ofCell, ↓reduceIte, Nat.reduceEqDiff] <;> rfl)) rfl rfl ?_
        refine o_cl rfl rfl (by simp only [evs, ev, envOf, val_set, ofValue, ofCell, ↓reduceIte, Nat.reduceEqDiff] <;> rfl) rfl (truth_fin ho W2 (decide (n = 0))) rfl rfl ?_; rintro _ H8 ⟨rfl, X8⟩
        have W8 := X8.wf; have E8 := E2.trans X8
        have A1 := X8.keep _ _ A1
        have A2 := X8.keep _ _ A2
        have n8 := X8.n
        refine o_st W8 (by simp only [ev, envOf, val_set, ofValue, ofCell, ↓reduceIte, Nat.reduceEqDiff] <;> rfl) (by simp only [ev, envOf, val_set, ofValue, ofCell, ↓reduceIte, Nat.reduceEqDiff] <;> rfl) A2 Ty.csz24 rfl (Nat.le_of_ble_eq_true rfl) (by rfl) rfl rfl ?_; intro H9 n9 W9 A9 K9
        have A9 : H9.at H1.n = some (.row [.int .i64 (2), .int .i64 (flagN (decide (n = 0))), .nils] 24 false none) := A9
        have E9 := Ext.put W0 E8 (by have := E8.n; omega) K9 n9 W9
        have A1 := K9.own A1 (by omega)
        refine o_rd (r_assign (by simp only [ev, envOf, val_set, ofValue, ofCell, ↓reduceIte, Nat.reduceEqDiff] <;> rfl)) rfl rfl ?_
        refine o_nil ?_
        have hr10 : H9.read (.mt H1.n) 0 3 = some [.int .i64 (2), .int .i64 (flagN (decide (n = 0))), .nils] := read_mt A9 (Nat.le_of_ble_eq_true rfl)
        refine w_ret ⟨.inr rfl, rfl, .tup [.agg [.int .i64 (2), .int .i64 (flagN (decide (n = 0))), .nils], .int .i64 (0)], (show resultA Try.prog [.cell 4 24, .tmp 5] _ = _ by simp only [resultA, resultsA, envOf, val_set, ↓reduceIte, Nat.reduceEqDiff, Option.map_some, hr10, Ty.agg24, Ty.csz24] <;> rfl), ?_⟩
        refine ⟨?_, E9⟩; first | (simp [unS, outS, hg3, hg4, hc7]; done) | (simp [unS, outS, hg3, hg4, hc7]; done) | (subst_vars; simp [unS, outS, hg3, hg4, hc7]; done) | (exfalso; omega)
      · have hc7 := dec_f hc7
        refine w_skip ?_
        refine w_seq ?_
        refine w_region ?_
        refine o_rd (r_build (cs := [.int .i64 (0), .int .i64 (0), .nils]) Ty.zero24 Ty.pl24 (by simp only [evParts, ev, envOf, val_set, ofValue, ofCell, ↓reduceIte, Nat.reduceEqDiff] <;> rfl) rfl) rfl rfl ?_
        refine o_st W2 (by simp only [ev, envOf, val_set, ofValue, ofCell, ↓reduceIte, Nat.reduceEqDiff] <;> rfl) (by simp only [ev, envOf, val_set, ofValue, ofCell, ↓reduceIte, Nat.reduceEqDiff] <;> rfl) A2 Ty.csz24 rfl (Nat.le_of_ble_eq_true rfl) (by rfl) rfl rfl ?_; intro H11 n11 W11 A11 K11
        have A11 : H11.at H1.n = some (.row [.int .i64 (0), .int .i64 (0), .nils] 24 false none) := A11
        have E11 := Ext.put W0 E2 (by have := E2.n; omega) K11 n11 W11
        have A1 := K11.own A1 (by omega)
        refine o_rd (r_assign (by simp only [ev, envOf, val_set, ofValue, ofCell, ↓reduceIte, Nat.reduceEqDiff] <;> rfl)) rfl rfl ?_
        refine o_nil ?_
        have hr12 : H11.read (.mt H1.n) 0 3 = some [.int .i64 (0), .int .i64 (0), .nils] := read_mt A11 (Nat.le_of_ble_eq_true rfl)
        refine w_ret ⟨.inr rfl, rfl, .tup [.agg [.int .i64 (0), .int .i64 (0), .nils], .int .i64 (5)], (show resultA Try.prog [.cell 4 24, .tmp 5] _ = _ by simp only [resultA, resultsA, envOf, val_set, ↓reduceIte, Nat.reduceEqDiff, Option.map_some, hr12, Ty.agg24, Ty.csz24] <;> rfl), ?_⟩
        refine ⟨?_, E11⟩; first | (simp [unS, outS, hg3, hg4, hc7]; done) | (simp [unS, outS, hg3, hg4, hc7]; done) | (subst_vars; simp [unS, outS, hg3, hg4, hc7]; done) | (exfalso; omega)
  · have hg3 := dec_t hg3
    refine o_rd (r_fieldAddr Ty.fo24_0 (by simp only [ev, envOf, val_set, ofValue, ofCell, ↓reduceIte, Nat.reduceEqDiff] <;> rfl)) rfl ((wanted_of (b := true) rfl rfl rfl (by simp only [val_set, ↓reduceIte, Nat.reduceEqDiff] <;> rfl)).trans rfl) ?_
    refine o_rd (r_load1 (v := .int .i64 (k)) Ty.agg3 (by simp only [ev, envOf, val_set, ofValue, ofCell, ↓reduceIte, Nat.reduceEqDiff] <;> rfl) (read_mt A1 (Nat.le_of_ble_eq_true rfl))) rfl ((wanted_of (b := true) rfl rfl rfl (by simp only [val_set, ↓reduceIte, Nat.reduceEqDiff] <;> rfl)).trans rfl) ?_
    refine o_rd (r_eq (a := k) (b := 1) (by simp only [ev, envOf, val_set, ofValue, ofCell, ↓reduceIte, Nat.reduceEqDiff] <;> rfl) (by simp only [ev, envOf, val_set, ofValue, ofCell, ↓reduceIte, Nat.reduceEqDiff] <;> rfl)) rfl ((wanted_of (b := true) rfl rfl rfl (by simp only [val_set, ↓reduceIte, Nat.reduceEqDiff] <;> rfl)).trans rfl) ?_
    refine o_rd (r_pick (t := true) (by simp only [ev, envOf, val_set, ofValue, ofCell, ↓reduceIte, Nat.reduceEqDiff] <;> rfl) (fun _ => (by simp only [ev, envOf, val_set, ofValue, ofCell, ↓reduceIte, Nat.reduceEqDiff] <;> rfl)) (fun h => by cases h)) rfl rfl ?_
    refine o_nil ?_
    refine w_cond (by simp only [ev, envOf, val_set, ofValue, ofCell, ↓reduceIte, Nat.reduceEqDiff] <;> rfl) (fun hc13 => ?_) (fun hc13 => ?_)
    · have hc13 := dec_t hc13
      refine w_seq ?_
      refine w_region ?_
      refine o_rd (r_fieldAddr Ty.fo24_1 (by simp only [ev, envOf, val_set, ofValue, ofCell, ↓reduceIte, Nat.reduceEqDiff] <;> rfl)) rfl rfl ?_
      refine o_rd (r_load1 (v := .int .i64 (n)) Ty.agg3 (by simp only [ev, envOf, val_set, ofValue, ofCell, ↓reduceIte, Nat.reduceEqDiff] <;> rfl) (read_mt A1 (Nat.le_of_ble_eq_true rfl))) rfl rfl ?_
      refine o_rd (r_subW (a := 0) (b := n) (by simp only [ev, envOf, val_set, ofValue, ofCell, ↓reduceIte, Nat.reduceEqDiff] <;> rfl) (by simp only [ev, envOf, val_set, ofValue, ofCell, ↓reduceIte, Nat.reduceEqDiff] <;> rfl)) rfl rfl ?_
      refine o_cl rfl rfl (by simp only [evs, ev, envOf, val_set, ofValue, ofCell, ↓reduceIte, Nat.reduceEqDiff] <;> rfl) rfl (number_fin ho W2 (wrapA .i64 (0 - n))) rfl rfl ?_; rintro _ H14 ⟨rfl, X14⟩
      have W14 := X14.wf; have E14 := E2.trans X14
      have A1 := X14.keep _ _ A1
      have A2 := X14.keep _ _ A2
      have n14 := X14.n
      refine o_st W14 (by simp only [ev, envOf, val_set, ofValue, ofCell, ↓reduceIte, Nat.reduceEqDiff] <;> rfl) (by simp only [ev, envOf, val_set, ofValue, ofCell, ↓reduceIte, Nat.reduceEqDiff] <;> rfl) A2 Ty.csz24 rfl (Nat.le_of_ble_eq_true rfl) (by rfl) rfl rfl ?_; intro H15 n15 W15 A15 K15
      have A15 : H15.at H1.n = some (.row [.int .i64 (1), .int .i64 (wrapA .i64 (0 - n)), .nils] 24 false none) := A15
      have E15 := Ext.put W0 E14 (by have := E14.n; omega) K15 n15 W15
      have A1 := K15.own A1 (by omega)
      refine o_rd (r_assign (by simp only [ev, envOf, val_set, ofValue, ofCell, ↓reduceIte, Nat.reduceEqDiff] <;> rfl)) rfl rfl ?_
      refine o_nil ?_
      have hr16 : H15.read (.mt H1.n) 0 3 = some [.int .i64 (1), .int .i64 (wrapA .i64 (0 - n)), .nils] := read_mt A15 (Nat.le_of_ble_eq_true rfl)
      refine w_ret ⟨.inr rfl, rfl, .tup [.agg [.int .i64 (1), .int .i64 (wrapA .i64 (0 - n)), .nils], .int .i64 (0)], (show resultA Try.prog [.cell 4 24, .tmp 5] _ = _ by simp only [resultA, resultsA, envOf, val_set, ↓reduceIte, Nat.reduceEqDiff, Option.map_some, hr16, Ty.agg24, Ty.csz24] <;> rfl), ?_⟩
      refine ⟨?_, E15⟩; first | (simp [unS, outS, hg3, hc13]; done) | (simp [unS, outS, hg3, hc13]; done) | (subst_vars; simp [unS, outS, hg3, hc13]; done) | (exfalso; omega)
    · have hc13 := dec_f hc13
      refine w_skip ?_
      refine w_seq ?_
      refine w_seq ?_
      refine w_region ?_
      refine o_rd (r_move (by simp only [ev, envOf, val_set, ofValue, ofCell, ↓reduceIte, Nat.reduceEqDiff] <;> rfl)) rfl rfl ?_
      refine o_rd (r_eq (a := op) (b := 2) (by simp only [ev, envOf, val_set, ofValue, ofCell, ↓reduceIte, Nat.reduceEqDiff] <;> rfl) (by simp only [ev, envOf, val_set, ofValue, ofCell, ↓reduceIte, Nat.reduceEqDiff] <;> rfl)) rfl rfl ?_
      refine o_rd (r_move (by simp only [ev, envOf, val_set, ofValue, ofCell, ↓reduceIte, Nat.reduceEqDiff] <;> rfl)) rfl rfl ?_
      cases hg17 : (decide (op = 2) : Bool)
      · have hg17 := dec_f hg17
        refine o_sk rfl ((wanted_of (b := false) rfl rfl rfl (by simp only [val_set, ↓reduceIte, Nat.reduceEqDiff] <;> rfl)).trans rfl) ?_
        refine o_sk rfl ((wanted_of (b := false) rfl rfl rfl (by simp only [val_set, ↓reduceIte, Nat.reduceEqDiff] <;> rfl)).trans rfl) ?_
        refine o_sk rfl ((wanted_of (b := false) rfl rfl rfl (by simp only [val_set, ↓reduceIte, Nat.reduceEqDiff] <;> rfl)).trans rfl) ?_
        refine o_rd (r_pick (t := false) (by simp only [ev, envOf, val_set, ofValue, ofCell, ↓reduceIte, Nat.reduceEqDiff] <;> rfl) (fun h => by cases h) (fun _ => (by simp only [ev, envOf, val_set, ofValue, ofCell, ↓reduceIte, Nat.reduceEqDiff] <;> rfl))) rfl rfl ?_
        refine o_nil ?_
        refine w_cond (t := false) (by simp only [ev, envOf, val_set, ofValue, ofCell, ↓reduceIte, Nat.reduceEqDiff] <;> rfl) (fun h => by cases h) (fun _ => ?_)
        refine w_skip ?_
        refine w_seq ?_
        refine w_region ?_
        refine o_rd (r_build (cs := [.int .i64 (0), .int .i64 (0), .nils]) Ty.zero24 Ty.pl24 (by simp only [evParts, ev, envOf, val_set, ofValue, ofCell, ↓reduceIte, Nat.reduceEqDiff] <;> rfl) rfl) rfl rfl ?_
        refine o_st W2 (by simp only [ev, envOf, val_set, ofValue, ofCell, ↓reduceIte, Nat.reduceEqDiff] <;> rfl) (by simp only [ev, envOf, val_set, ofValue, ofCell, ↓reduceIte, Nat.reduceEqDiff] <;> rfl) A2 Ty.csz24 rfl (Nat.le_of_ble_eq_true rfl) (by rfl) rfl rfl ?_; intro H18 n18 W18 A18 K18
        have A18 : H18.at H1.n = some (.row [.int .i64 (0), .int .i64 (0), .nils] 24 false none) := A18
        have E18 := Ext.put W0 E2 (by have := E2.n; omega) K18 n18 W18
        have A1 := K18.own A1 (by omega)
        refine o_rd (r_assign (by simp only [ev, envOf, val_set, ofValue, ofCell, ↓reduceIte, Nat.reduceEqDiff] <;> rfl)) rfl rfl ?_
        refine o_nil ?_
        have hr19 : H18.read (.mt H1.n) 0 3 = some [.int .i64 (0), .int .i64 (0), .nils] := read_mt A18 (Nat.le_of_ble_eq_true rfl)
        refine w_ret ⟨.inr rfl, rfl, .tup [.agg [.int .i64 (0), .int .i64 (0), .nils], .int .i64 (5)], (show resultA Try.prog [.cell 4 24, .tmp 5] _ = _ by simp only [resultA, resultsA, envOf, val_set, ↓reduceIte, Nat.reduceEqDiff, Option.map_some, hr19, Ty.agg24, Ty.csz24] <;> rfl), ?_⟩
        refine ⟨?_, E18⟩; first | (simp [unS, outS, hg3, hc13, hg17]; done) | (simp [unS, outS, hg3, hc13, hg17]; done) | (subst_vars; simp [unS, outS, hg3, hc13, hg17]; done) | (exfalso; omega)
      · have hg17 := dec_t hg17
        refine o_rd (r_fieldAddr Ty.fo24_0 (by simp only [ev, envOf, val_set, ofValue, ofCell, ↓reduceIte, Nat.reduceEqDiff] <;> rfl)) rfl ((wanted_of (b := true) rfl rfl rfl (by simp only [val_set, ↓reduceIte, Nat.reduceEqDiff] <;> rfl)).trans rfl) ?_
        refine o_rd (r_load1 (v := .int .i64 (k)) Ty.agg3 (by simp only [ev, envOf, val_set, ofValue, ofCell, ↓reduceIte, Nat.reduceEqDiff] <;> rfl) (read_mt A1 (Nat.le_of_ble_eq_true rfl))) rfl ((wanted_of (b := true) rfl rfl rfl (by simp only [val_set, ↓reduceIte, Nat.reduceEqDiff] <;> rfl)).trans rfl) ?_
        refine o_rd (r_eq (a := k) (b := 2) (by simp only [ev, envOf, val_set, ofValue, ofCell, ↓reduceIte, Nat.reduceEqDiff] <;> rfl) (by simp only [ev, envOf, val_set, ofValue, ofCell, ↓reduceIte, Nat.reduceEqDiff] <;> rfl)) rfl ((wanted_of (b := true) rfl rfl rfl (by simp only [val_set, ↓reduceIte, Nat.reduceEqDiff] <;> rfl)).trans rfl) ?_
        refine o_rd (r_pick (t := true) (by simp only [ev, envOf, val_set, ofValue, ofCell, ↓reduceIte, Nat.reduceEqDiff] <;> rfl) (fun _ => (by simp only [ev, envOf, val_set, ofValue, ofCell, ↓reduceIte, Nat.reduceEqDiff] <;> rfl)) (fun h => by cases h)) rfl rfl ?_
        refine o_nil ?_
        refine w_cond (by simp only [ev, envOf, val_set, ofValue, ofCell, ↓reduceIte, Nat.reduceEqDiff] <;> rfl) (fun hc20 => ?_) (fun hc20 => ?_)
        · have hc20 := dec_t hc20
          refine w_seq ?_
          refine w_region ?_
          refine o_rd (r_fieldAddr Ty.fo24_1 (by simp only [ev, envOf, val_set, ofValue, ofCell, ↓reduceIte, Nat.reduceEqDiff] <;> rfl)) rfl rfl ?_
          refine o_rd (r_load1 (v := .int .i64 (n)) Ty.agg3 (by simp only [ev, envOf, val_set, ofValue, ofCell, ↓reduceIte, Nat.reduceEqDiff] <;> rfl) (read_mt A1 (Nat.le_of_ble_eq_true rfl))) rfl rfl ?_
          refine o_rd (r_eq (a := n) (b := 0) (by simp only [ev, envOf, val_set, ofValue, ofCell, ↓reduceIte, Nat.reduceEqDiff] <;> rfl) (by simp only [ev, envOf, val_set, ofValue, ofCell, ↓reduceIte, Nat.reduceEqDiff] <;> rfl)) rfl rfl ?_
          refine o_cl rfl rfl (by simp only [evs, ev, envOf, val_set, ofValue, ofCell, ↓reduceIte, Nat.reduceEqDiff] <;> rfl) rfl (truth_fin ho W2 (decide (n = 0))) rfl rfl ?_; rintro _ H21 ⟨rfl, X21⟩
          have W21 := X21.wf; have E21 := E2.trans X21
          have A1 := X21.keep _ _ A1
          have A2 := X21.keep _ _ A2
          have n21 := X21.n
          refine o_st W21 (by simp only [ev, envOf, val_set, ofValue, ofCell, ↓reduceIte, Nat.reduceEqDiff] <;> rfl) (by simp only [ev, envOf, val_set, ofValue, ofCell, ↓reduceIte, Nat.reduceEqDiff] <;> rfl) A2 Ty.csz24 rfl (Nat.le_of_ble_eq_true rfl) (by rfl) rfl rfl ?_; intro H22 n22 W22 A22 K22
          have A22 : H22.at H1.n = some (.row [.int .i64 (2), .int .i64 (flagN (decide (n = 0))), .nils] 24 false none) := A22
          have E22 := Ext.put W0 E21 (by have := E21.n; omega) K22 n22 W22
          have A1 := K22.own A1 (by omega)
          refine o_rd (r_assign (by simp only [ev, envOf, val_set, ofValue, ofCell, ↓reduceIte, Nat.reduceEqDiff] <;> rfl)) rfl rfl ?_
          refine o_nil ?_
          have hr23 : H22.read (.mt H1.n) 0 3 = some [.int .i64 (2), .int .i64 (flagN (decide (n = 0))), .nils] := read_mt A22 (Nat.le_of_ble_eq_true rfl)
          refine w_ret ⟨.inr rfl, rfl, .tup [.agg [.int .i64 (2), .int .i64 (flagN (decide (n = 0))), .nils], .int .i64 (0)], (show resultA Try.prog [.cell 4 24, .tmp 5] _ = _ by simp only [resultA, resultsA, envOf, val_set, ↓reduceIte, Nat.reduceEqDiff, Option.map_some, hr23, Ty.agg24, Ty.csz24] <;> rfl), ?_⟩
          refine ⟨?_, E22⟩; first | (simp [unS, outS, hg3, hc13, hg17, hc20]; done) | (simp [unS, outS, hg3, hc13, hg17, hc20]; done) | (subst_vars; simp [unS, outS, hg3, hc13, hg17, hc20]; done) | (exfalso; omega)
        · have hc20 := dec_f hc20
          refine w_skip ?_
          refine w_seq ?_
          refine w_region ?_
          refine o_rd (r_build (cs := [.int .i64 (0), .int .i64 (0), .nils]) Ty.zero24 Ty.pl24 (by simp only [evParts, ev, envOf, val_set, ofValue, ofCell, ↓reduceIte, Nat.reduceEqDiff] <;> rfl) rfl) rfl rfl ?_
          refine o_st W2 (by simp only [ev, envOf, val_set, ofValue, ofCell, ↓reduceIte, Nat.reduceEqDiff] <;> rfl) (by simp only [ev, envOf, val_set, ofValue, ofCell, ↓reduceIte, Nat.reduceEqDiff] <;> rfl) A2 Ty.csz24 rfl (Nat.le_of_ble_eq_true rfl) (by rfl) rfl rfl ?_; intro H24 n24 W24 A24 K24
          have A24 : H24.at H1.n = some (.row [.int .i64 (0), .int .i64 (0), .nils] 24 false none) := A24
          have E24 := Ext.put W0 E2 (by have := E2.n; omega) K24 n24 W24
          have A1 := K24.own A1 (by omega)
          refine o_rd (r_assign (by simp only [ev, envOf, val_set, ofValue, ofCell, ↓reduceIte, Nat.reduceEqDiff] <;> rfl)) rfl rfl ?_
          refine o_nil ?_
          have hr25 : H24.read (.mt H1.n) 0 3 = some [.int .i64 (0), .int .i64 (0), .nils] := read_mt A24 (Nat.le_of_ble_eq_true rfl)
          refine w_ret ⟨.inr rfl, rfl, .tup [.agg [.int .i64 (0), .int .i64 (0), .nils], .int .i64 (5)], (show resultA Try.prog [.cell 4 24, .tmp 5] _ = _ by simp only [resultA, resultsA, envOf, val_set, ↓reduceIte, Nat.reduceEqDiff, Option.map_some, hr25, Ty.agg24, Ty.csz24] <;> rfl), ?_⟩
          refine ⟨?_, E24⟩; first | (simp [unS, outS, hg3, hc13, hg17, hc20]; done) | (simp [unS, outS, hg3, hc13, hg17, hc20]; done) | (subst_vars; simp [unS, outS, hg3, hc13, hg17, hc20]; done) | (exfalso; omega)
end Go.Proofs.Ytenfjdkeikjhlaa.Vs
