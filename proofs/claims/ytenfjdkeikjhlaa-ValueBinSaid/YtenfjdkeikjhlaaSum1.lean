/-
  What the operators of layer 7 make, by the code and by the reference.
-/
import Derived.Test.YtenfjdkeikjhlaaTy
import Derived.Test.YtenfjdkeikjhlaaVjV
set_option autoImplicit false
set_option linter.unusedVariables false
set_option linter.unusedSimpArgs false
namespace Go.Proofs.Ytenfjdkeikjhlaa.Vs
open Go.VI Go.Proofs
def flagN (b : Bool) : Int := if b = true then 1 else 0
/-- kind, number, trap -/
def sumsS (op a b : Int) : Int × Int × Int :=
  if op = 31 then (1, wrapA .i64 (a + b), 0) else if op = 32 then (1, wrapA .i64 (a - b), 0) else if op = 41 then (1, wrapA .i64 (a * b), 0)
  else if op = 42 then (if b = 0 then (0, 0, 1) else (1, wrapA .i64 (Int.tdiv a b), 0))
  else if op = 43 then (if b = 0 then (0, 0, 1) else (1, Int.tmod a b, 0))
  else if op = 23 then (2, flagN (decide (a < b)), 0) else if op = 24 then (2, flagN (decide (a ≤ b)), 0) else if op = 25 then (2, flagN (decide (b < a)), 0) else if op = 26 then (2, flagN (decide (b ≤ a)), 0)
  else (0, 0, 5)
def binS (op ak an bk bn : Int) : Int × Int × Int :=
  if ak ≠ bk then (0, 0, 5) else if (ak = 1 ∨ ak = 2 ∨ ak = 5) ∧ op = 21 then (2, flagN (decide (an = bn)), 0)
  else if (ak = 1 ∨ ak = 2 ∨ ak = 5) ∧ op = 22 then (2, flagN (decide (an ≠ bn)), 0)
  else if ak = 1 then sumsS op an bn else (0, 0, 5)
def unS (op k n : Int) : Int × Int × Int :=
  if op = 1 ∧ k = 1 then (1, wrapA .i64 (0 - n), 0) else if op = 2 ∧ k = 2 then (2, flagN (decide (n = 0)), 0) else (0, 0, 5)
variable {orc : CallF}
def outS (x : Int × Int × Int) : AV := .tup [.agg [.int .i64 x.1, .int .i64 x.2.1, .nils], .int .i64 x.2.2]
set_option maxRecDepth 100000 in
set_option maxHeartbeats 4000000 in
theorem flag_fin (ho : NoOrcBut [9] orc) {H0 : AH} (W0 : Wf H0) (b : Bool) : Fin Try.prog orc 39 [.bool (b)] H0 (fun r H' => r = .agg [.int .i64 2, .int .i64 (flagN b), .nils] ∧ Ext H0 H') := by
  have E0 := Ext.refl W0
  refine fin_of Try.func39 rfl (by rw [Try.ntmps39]; simp) (ho _ rfl _ _) ?_
  rw [Try.ntmps39]
  refine w_seq ?_
  refine w_region ?_
  refine o_nw W0 (a_alloc Ty.zero24) rfl rfl rfl (by simp) ?_; intro H1 n1 W1 X1 A1
  have A1 : H1.at H0.n = some (.row [.int .i64 (0), .int .i64 (0), .nils] 24 false none) := A1
  have E1 := E0.trans X1
  refine o_nil ?_
  refine w_seq ?_
  refine w_seq ?_
  refine w_region ?_
  refine o_rd (r_move (by simp only [ev, envOf, val_set, ofValue, ofCell, ↓reduceIte, Nat.reduceEqDiff] <;> rfl)) rfl rfl ?_
  refine o_nil ?_
  refine w_cond (by simp only [ev, envOf, val_set, ofValue, ofCell, ↓reduceIte, Nat.reduceEqDiff] <;> rfl) (fun hc2 => ?_) (fun hc2 => ?_)
  · skip
    refine w_seq ?_
    refine w_region ?_
    refine o_rd (r_build (cs := [.int .i64 (2), .int .i64 (1), .nils]) Ty.zero24 Ty.pl24 (by simp only [evParts, ev, envOf, val_set, ofValue, ofCell, ↓reduceIte, Nat.reduceEqDiff] <;> rfl) rfl) rfl rfl ?_
    refine o_st W1 (by simp only [ev, envOf, val_set, ofValue, ofCell, ↓reduceIte, Nat.reduceEqDiff] <;> rfl) (by simp only [ev, envOf, val_set, ofValue, ofCell, ↓reduceIte, Nat.reduceEqDiff] <;> rfl) A1 Ty.csz24 rfl (Nat.le_of_ble_eq_true rfl) (by rfl) rfl rfl ?_; intro H3 n3 W3 A3 K3
    have A3 : H3.at H0.n = some (.row [.int .i64 (2), .int .i64 (1), .nils] 24 false none) := A3
    have E3 := Ext.put W0 E1 (by have := E1.n; omega) K3 n3 W3
    refine o_nil ?_
    have hr4 : H3.read (.mt H0.n) 0 3 = some [.int .i64 (2), .int .i64 (1), .nils] := read_mt A3 (Nat.le_of_ble_eq_true rfl)
    refine w_ret ⟨.inr rfl, rfl, .agg [.int .i64 (2), .int .i64 (1), .nils], (show resultA Try.prog [.cell 2 24] _ = _ by simp only [resultA, resultsA, envOf, val_set, ↓reduceIte, Nat.reduceEqDiff, Option.map_some, hr4, Ty.agg24, Ty.csz24] <;> rfl), ?_⟩
    exact ⟨by first | rfl | (simp [flagN, hc2]; done), E3⟩
  · skip
    refine w_skip ?_
    refine w_seq ?_
    refine w_region ?_
    refine o_rd (r_build (cs := [.int .i64 (2), .int .i64 (0), .nils]) Ty.zero24 Ty.pl24 (by simp only [evParts, ev, envOf, val_set, ofValue, ofCell, ↓reduceIte, Nat.reduceEqDiff] <;> rfl) rfl) rfl rfl ?_
    refine o_st W1 (by simp only [ev, envOf, val_set, ofValue, ofCell, ↓reduceIte, Nat.reduceEqDiff] <;> rfl) (by simp only [ev, envOf, val_set, ofValue, ofCell, ↓reduceIte, Nat.reduceEqDiff] <;> rfl) A1 Ty.csz24 rfl (Nat.le_of_ble_eq_true rfl) (by rfl) rfl rfl ?_; intro H5 n5 W5 A5 K5
    have A5 : H5.at H0.n = some (.row [.int .i64 (2), .int .i64 (0), .nils] 24 false none) := A5
    have E5 := Ext.put W0 E1 (by have := E1.n; omega) K5 n5 W5
    refine o_nil ?_
    have hr6 : H5.read (.mt H0.n) 0 3 = some [.int .i64 (2), .int .i64 (0), .nils] := read_mt A5 (Nat.le_of_ble_eq_true rfl)
    refine w_ret ⟨.inr rfl, rfl, .agg [.int .i64 (2), .int .i64 (0), .nils], (show resultA Try.prog [.cell 2 24] _ = _ by simp only [resultA, resultsA, envOf, val_set, ↓reduceIte, Nat.reduceEqDiff, Option.map_some, hr6, Ty.agg24, Ty.csz24] <;> rfl), ?_⟩
    exact ⟨by first | rfl | (simp [flagN, hc2]; done), E5⟩
set_option maxRecDepth 100000 in
set_option maxHeartbeats 4000000 in
theorem truth_fin (ho : NoOrcBut [9] orc) {H0 : AH} (W0 : Wf H0) (b : Bool) : Fin Try.prog orc 41 [.bool (b)] H0 (fun r H' => r = .agg [.int .i64 2, .int .i64 (flagN b), .nils] ∧ Ext H0 H') := by
  have E0 := Ext.refl W0
  refine fin_of Try.func41 rfl (by rw [Try.ntmps41]; simp) (ho _ rfl _ _) ?_
  rw [Try.ntmps41]
  refine w_seq ?_
  refine w_region ?_
  refine o_nw W0 (a_alloc Ty.zero24) rfl rfl rfl (by simp) ?_; intro H1 n1 W1 X1 A1
  have A1 : H1.at H0.n = some (.row [.int .i64 (0), .int .i64 (0), .nils] 24 false none) := A1
  have E1 := E0.trans X1
  refine o_nil ?_
  refine w_seq ?_
  refine w_region ?_
  refine o_rd (r_build (cs := [.int .i64 (2), .int .i64 (0), .nils]) Ty.zero24 Ty.pl24 (by simp only [evParts, ev, envOf, val_set, ofValue, ofCell, ↓reduceIte, Nat.reduceEqDiff] <;> rfl) rfl) rfl rfl ?_
  refine o_nw W1 (a_alloc Ty.zero24) rfl rfl rfl (by simp) ?_; intro H2 n2 W2 X2 A2
  have A2 : H2.at H1.n = some (.row [.int .i64 (0), .int .i64 (0), .nils] 24 false none) := A2
  have E2 := E1.trans X2
  have A1 := X2.keep _ _ A1
  refine o_st W2 (by simp only [ev, envOf, val_set, ofValue, ofCell, ↓reduceIte, Nat.reduceEqDiff] <;> rfl) (by simp only [ev, envOf, val_set, ofValue, ofCell, ↓reduceIte, Nat.reduceEqDiff] <;> rfl) A2 Ty.csz24 rfl (Nat.le_of_ble_eq_true rfl) (by rfl) rfl rfl ?_; intro H3 n3 W3 A3 K3
  have A3 : H3.at H1.n = some (.row [.int .i64 (2), .int .i64 (0), .nils] 24 false none) := A3
  have E3 := Ext.put W0 E2 (by have := E2.n; omega) K3 n3 W3
  have A1 := K3.own A1 (by omega)
  refine o_nil ?_
  refine w_seq ?_
  refine w_seq ?_
  refine w_region ?_
  refine o_rd (r_move (by simp only [ev, envOf, val_set, ofValue, ofCell, ↓reduceIte, Nat.reduceEqDiff] <;> rfl)) rfl rfl ?_
  refine o_nil ?_
  refine w_cond (by simp only [ev, envOf, val_set, ofValue, ofCell, ↓reduceIte, Nat.reduceEqDiff] <;> rfl) (fun hc4 => ?_) (fun hc4 => ?_)
  · skip
    refine w_region ?_
    refine o_rd (r_fieldAddr Ty.fo24_1 (by simp only [ev, envOf, val_set, ofValue, ofCell, ↓reduceIte, Nat.reduceEqDiff] <;> rfl)) rfl rfl ?_
    refine o_st W3 (by simp only [ev, envOf, val_set, ofValue, ofCell, ↓reduceIte, Nat.reduceEqDiff] <;> rfl) (by simp only [ev, envOf, val_set, ofValue, ofCell, ↓reduceIte, Nat.reduceEqDiff] <;> rfl) A3 Ty.csz3 rfl (Nat.le_of_ble_eq_true rfl) (by rfl) rfl rfl ?_; intro H5 n5 W5 A5 K5
    have A5 : H5.at H1.n = some (.row [.int .i64 (2), .int .i64 (1), .nils] 24 false none) := A5
    have E5 := Ext.put W0 E3 (by have := E3.n; omega) K5 n5 W5
    have A1 := K5.own A1 (by omega)
    refine o_nil ?_
    refine w_seq ?_
    refine w_region ?_
    refine o_rd (r_loadN (cs := [.int .i64 (2), .int .i64 (1), .nils]) Ty.agg24 Ty.csz24 (by simp only [ev, envOf, val_set, ofValue, ofCell, ↓reduceIte, Nat.reduceEqDiff] <;> rfl) (read_mt A5 (Nat.le_of_ble_eq_true rfl))) rfl rfl ?_
    refine o_st W5 (by simp only [ev, envOf, val_set, ofValue, ofCell, ↓reduceIte, Nat.reduceEqDiff] <;> rfl) (by simp only [ev, envOf, val_set, ofValue, ofCell, ↓reduceIte, Nat.reduceEqDiff] <;> rfl) A1 Ty.csz24 rfl (Nat.le_of_ble_eq_true rfl) (by rfl) rfl rfl ?_; intro H6 n6 W6 A6 K6
    have A6 : H6.at H0.n = some (.row [.int .i64 (2), .int .i64 (1), .nils] 24 false none) := A6
    have E6 := Ext.put W0 E5 (by have := E5.n; omega) K6 n6 W6
    have A5 := K6.own A5 (by omega)
    refine o_nil ?_
    have hr7 : H6.read (.mt H0.n) 0 3 = some [.int .i64 (2), .int .i64 (1), .nils] := read_mt A6 (Nat.le_of_ble_eq_true rfl)
    refine w_ret ⟨.inr rfl, rfl, .agg [.int .i64 (2), .int .i64 (1), .nils], (show resultA Try.prog [.cell 2 24] _ = _ by simp only [resultA, resultsA, envOf, val_set, ↓reduceIte, Nat.reduceEqDiff, Option.map_some, hr7, Ty.agg24, Ty.csz24] <;> rfl), ?_⟩
    exact ⟨by first | rfl | (simp [flagN, hc4]; done), E6⟩
  · skip
    refine w_skip ?_
    refine w_seq ?_
    refine w_region ?_
    refine o_rd (r_loadN (cs := [.int .i64 (2), .int .i64 (0), .nils]) Ty.agg24 Ty.csz24 (by simp only [ev, envOf, val_set, ofValue, ofCell, ↓reduceIte, Nat.reduceEqDiff] <;> rfl) (read_mt A3 (Nat.le_of_ble_eq_true rfl))) rfl rfl ?_
    refine o_st W3 (by simp only [ev, envOf, val_set, ofValue, ofCell, ↓reduceIte, Nat.reduceEqDiff] <;> rfl) (by simp only [ev, envOf, val_set, ofValue, ofCell, ↓reduceIte, Nat.reduceEqDiff] <;> rfl) A1 Ty.csz24 rfl (Nat.le_of_ble_eq_true rfl) (by rfl) rfl rfl ?_; intro H8 n8 W8 A8 K8
    have A8 : H8.at H0.n = some (.row [.int .i64 (2), .int .i64 (0), .nils] 24 false none) := A8
    have E8 := Ext.put W0 E3 (by have := E3.n; omega) K8 n8 W8
    have A3 := K8.own A3 (by omega)
    refine o_nil ?_
    have hr9 : H8.read (.mt H0.n) 0 3 = some [.int .i64 (2), .int .i64 (0), .nils] := read_mt A8 (Nat.le_of_ble_eq_true rfl)
    refine w_ret ⟨.inr rfl, rfl, .agg [.int .i64 (2), .int .i64 (0), .nils], (show resultA Try.prog [.cell 2 24] _ = _ by simp only [resultA, resultsA, envOf, val_set, ↓reduceIte, Nat.reduceEqDiff, Option.map_some, hr9, Ty.agg24, Ty.csz24] <;> rfl), ?_⟩
    exact ⟨by first | rfl | (simp [flagN, hc4]; done), E8⟩
set_option maxRecDepth 100000 in
set_option maxHeartbeats 4000000 in
theorem number_fin (ho : NoOrcBut [9] orc) {H0 : AH} (W0 : Wf H0) (n : Int) : Fin Try.prog orc 42 [.int .i64 (n)] H0 (fun r H' => r = .agg [.int .i64 1, .int .i64 n, .nils] ∧ Ext H0 H') := by
  have E0 := Ext.refl W0
  refine fin_of Try.func42 rfl (by rw [Try.ntmps42]; simp) (ho _ rfl _ _) ?_
  rw [Try.ntmps42]
  refine w_seq ?_
  refine w_region ?_
  refine o_nw W0 (a_alloc Ty.zero24) rfl rfl rfl (by simp) ?_; intro H1 n1 W1 X1 A1
  have A1 : H1.at H0.n = some (.row [.int .i64 (0), .int .i64 (0), .nils] 24 false none) := A1
  have E1 := E0.trans X1
  refine o_nil ?_
  refine w_seq ?_
  refine w_region ?_
  refine o_rd (r_move (by simp only [ev, envOf, val_set, ofValue, ofCell, ↓reduceIte, Nat.reduceEqDiff] <;> rfl)) rfl rfl ?_
  refine o_rd (r_build (cs := [.int .i64 (1), .int .i64 (n), .nils]) Ty.zero24 Ty.pl24 (by simp only [evParts, ev, envOf, val_set, ofValue, ofCell, ↓reduceIte, Nat.reduceEqDiff] <;> rfl) rfl) rfl rfl ?_
  refine o_st W1 (by simp only [ev, envOf, val_set, ofValue, ofCell, ↓reduceIte, Nat.reduceEqDiff] <;> rfl) (by simp only [ev, envOf, val_set, ofValue, ofCell, ↓reduceIte, Nat.reduceEqDiff] <;> rfl) A1 Ty.csz24 rfl (Nat.le_of_ble_eq_true rfl) (by rfl) rfl rfl ?_; intro H2 n2 W2 A2 K2
  have A2 : H2.at H0.n = some (.row [.int .i64 (1), .int .i64 (n), .nils] 24 false none) := A2
  have E2 := Ext.put W0 E1 (by have := E1.n; omega) K2 n2 W2
  refine o_nil ?_
  have hr3 : H2.read (.mt H0.n) 0 3 = some [.int .i64 (1), .int .i64 (n), .nils] := read_mt A2 (Nat.le_of_ble_eq_true rfl)
  refine w_ret ⟨.inr rfl, rfl, .agg [.int .i64 (1), .int .i64 (n), .nils], (show resultA Try.prog [.cell 2 24] _ = _ by simp only [resultA, resultsA, envOf, val_set, ↓reduceIte, Nat.reduceEqDiff, Option.map_some, hr3, Ty.agg24, Ty.csz24] <;> rfl), ?_⟩
  exact ⟨rfl, E2⟩
set_option maxRecDepth 100000 in
set_option maxHeartbeats 4000000 in
theorem sums_fin (ho : NoOrcBut [9] orc) {H0 : AH} (W0 : Wf H0) (op a b : Int) : Fin Try.prog orc 40 [.int .i64 (op), .int .i64 (a), .int .i64 (b)] H0 (fun r H' => r = outS (sumsS op a b) ∧ Ext H0 H') := by
  have E0 := Ext.refl W0
  refine fin_of Try.func40 rfl (by rw [Try.ntmps40]; simp) (ho _ rfl _ _) ?_
  rw [Try.ntmps40]
  refine w_seq ?_
  refine w_region ?_
  refine o_nw W0 (a_alloc Ty.zero24) rfl rfl rfl (by simp) ?_; intro H1 n1 W1 X1 A1
  have A1 : H1.at H0.n = some (.row [.int .i64 (0), .int .i64 (0), .nils] 24 false none) := A1
  have E1 := E0.trans X1
  refine o_rd (r_assign (by simp only [ev, envOf, val_set, ofValue, ofCell, ↓reduceIte, Nat.reduceEqDiff] <;> rfl)) rfl rfl ?_
  refine o_nil ?_
  refine w_seq ?_
  refine w_region ?_
  refine o_rd (r_assign (by simp only [ev, envOf, val_set, ofValue, ofCell, ↓reduceIte, Nat.reduceEqDiff] <;> rfl)) rfl rfl ?_
  refine o_nil ?_
  refine w_seq ?_
  refine w_seq ?_
  refine w_region ?_
  refine o_rd (r_move (by simp only [ev, envOf, val_set, ofValue, ofCell, ↓reduceIte, Nat.reduceEqDiff] <;> rfl)) rfl rfl ?_
  refine o_nil ?_
  refine w_block ?_
  refine w_seq ?_
  refine w_region ?_
  refine o_rd (r_eq (a := op) (b := 31) (by simp only [ev, envOf, val_set, ofValue, ofCell, ↓reduceIte, Nat.reduceEqDiff] <;> rfl) (by simp only [ev, envOf, val_set, ofValue, ofCell, ↓reduceIte, Nat.reduceEqDiff] <;> rfl)) rfl rfl ?_
  refine o_rd (r_assign (by simp only [ev, envOf, val_set, ofValue, ofCell, ↓reduceIte, Nat.reduceEqDiff] <;> rfl)) rfl rfl ?_
  refine o_nil ?_
  refine w_cond (by simp only [ev, envOf, val_set, ofValue, ofCell, ↓reduceIte, Nat.reduceEqDiff] <;> rfl) (fun hc2 => ?_) (fun hc2 => ?_)
  · have hc2 := dec_t hc2
    refine w_region ?_
    refine o_rd (r_move (by simp only [ev, envOf, val_set, ofValue, ofCell, ↓reduceIte, Nat.reduceEqDiff] <;> rfl)) rfl rfl ?_
    refine o_rd (r_move (by simp only [ev, envOf, val_set, ofValue, ofCell, ↓reduceIte, Nat.reduceEqDiff] <;> rfl)) rfl rfl ?_
    refine o_rd (r_addW (a := a) (b := b) (by simp only [ev, envOf, val_set, ofValue, ofCell, ↓reduceIte, Nat.reduceEqDiff] <;> rfl) (by simp only [ev, envOf, val_set, ofValue, ofCell, ↓reduceIte, Nat.reduceEqDiff] <;> rfl)) rfl rfl ?_
    refine o_rd (r_assign (by simp only [ev, envOf, val_set, ofValue, ofCell, ↓reduceIte, Nat.reduceEqDiff] <;> rfl)) rfl rfl ?_
    refine o_nil ?_
    refine w_seq ?_
    refine w_region ?_
    refine o_rd (r_move (by simp only [ev, envOf, val_set, ofValue, ofCell, ↓reduceIte, Nat.reduceEqDiff] <;> rfl)) rfl rfl ?_
    refine o_rd (r_build (cs := [.int .i64 (1), .int .i64 (wrapA .i64 (a + b)), .nils]) Ty.zero24 Ty.pl24 (by simp only [evParts, ev, envOf, val_set, ofValue, ofCell, ↓reduceIte, Nat.reduceEqDiff] <;> rfl) rfl) rfl rfl ?_
    refine o_st W1 (by simp only [ev, envOf, val_set, ofValue, ofCell, ↓reduceIte, Nat.reduceEqDiff] <;> rfl) (by simp only [ev, envOf, val_set, ofValue, ofCell, ↓reduceIte, Nat.reduceEqDiff] <;> rfl) A1 Ty.csz24 rfl (Nat.le_of_ble_eq_true rfl) (by rfl) rfl rfl ?_; intro H3 n3 W3 A3 K3
    have A3 : H3.at H0.n = some (.row [.int .i64 (1), .int .i64 (wrapA .i64 (a + b)), .nils] 24 false none) := A3
    have E3 := Ext.put W0 E1 (by have := E1.n; omega) K3 n3 W3
    refine o_rd (r_assign (by simp only [ev, envOf, val_set, ofValue, ofCell, ↓reduceIte, Nat.reduceEqDiff] <;> rfl)) rfl rfl ?_
    refine o_nil ?_
    have hr4 : H3.read (.mt H0.n) 0 3 = some [.int .i64 (1), .int .i64 (wrapA .i64 (a + b)), .nils] := read_mt A3 (Nat.le_of_ble_eq_true rfl)
    refine w_ret ⟨.inr rfl, rfl, .tup [.agg [.int .i64 (1), .int .i64 (wrapA .i64 (a + b)), .nils], .int .i64 (0)], (show resultA Try.prog [.cell 6 24, .tmp 7] _ = _ by simp only [resultA, resultsA, envOf, val_set, ↓reduceIte, Nat.reduceEqDiff, Option.map_some, hr4, Ty.agg24, Ty.csz24] <;> rfl), ?_⟩
    exact ⟨by first | (simp [sumsS, outS, hc2]; done) | (exfalso; omega), E3⟩
  · have hc2 := dec_f hc2
    refine w_seq ?_
    refine w_region ?_
    refine o_rd (r_eq (a := op) (b := 32) (by simp only [ev, envOf, val_set, ofValue, ofCell, ↓reduceIte, Nat.reduceEqDiff] <;> rfl) (by simp only [ev, envOf, val_set, ofValue, ofCell, ↓reduceIte, Nat.reduceEqDiff] <;> rfl)) rfl rfl ?_
    refine o_rd (r_assign (by simp only [ev, envOf, val_set, ofValue, ofCell, ↓reduceIte, Nat.reduceEqDiff] <;> rfl)) rfl rfl ?_
    refine o_nil ?_
    refine w_cond (by simp only [ev, envOf, val_set, ofValue, ofCell, ↓reduceIte, Nat.reduceEqDiff] <;> rfl) (fun hc5 => ?_) (fun hc5 => ?_)
    · have hc5 := dec_t hc5
      refine w_region ?_
      refine o_rd (r_move (by simp only [ev, envOf, val_set, ofValue, ofCell, ↓reduceIte, Nat.reduceEqDiff] <;> rfl)) rfl rfl ?_
      refine o_rd (r_move (by simp only [ev, envOf, val_set, ofValue, ofCell, ↓reduceIte, Nat.reduceEqDiff] <;> rfl)) rfl rfl ?_
      refine o_rd (r_subW (a := a) (b := b) (by simp only [ev, envOf, val_set, ofValue, ofCell, ↓reduceIte, Nat.reduceEqDiff] <;> rfl) (by simp only [ev, envOf, val_set, ofValue, ofCell, ↓reduceIte, Nat.reduceEqDiff] <;> rfl)) rfl rfl ?_
      refine o_rd (r_assign (by simp only [ev, envOf, val_set, ofValue, ofCell, ↓reduceIte, Nat.reduceEqDiff] <;> rfl)) rfl rfl ?_
      refine o_nil ?_
      refine w_seq ?_
      refine w_region ?_
      refine o_rd (r_move (by simp only [ev, envOf, val_set, ofValue, ofCell, ↓reduceIte, Nat.reduceEqDiff] <;> rfl)) rfl rfl ?_
      refine o_rd (r_build (cs := [.int .i64 (1), .int .i64 (wrapA .i64 (a - b)), .nils]) Ty.zero24 Ty.pl24 (by simp only [evParts, ev, envOf, val_set, ofValue, ofCell, ↓reduceIte, Nat.reduceEqDiff] <;> rfl) rfl) rfl rfl ?_
      refine o_st W1 (by simp only [ev, envOf, val_set, ofValue, ofCell, ↓reduceIte, Nat.reduceEqDiff] <;> rfl) (by simp only [ev, envOf, val_set, ofValue, ofCell, ↓reduceIte, Nat.reduceEqDiff] <;> rfl) A1 Ty.csz24 rfl (Nat.le_of_ble_eq_true rfl) (by rfl) rfl rfl ?_; intro H6 n6 W6 A6 K6
      have A6 : H6.at H0.n = some (.row [.int .i64 (1), .int .i64 (wrapA .i64 (a - b)), .nils] 24 false none) := A6
      have E6 := Ext.put W0 E1 (by have := E1.n; omega) K6 n6 W6
      refine o_rd (r_assign (by simp only [ev, envOf, val_set, ofValue, ofCell, ↓reduceIte, Nat.reduceEqDiff] <;> rfl)) rfl rfl ?_
      refine o_nil ?_
      have hr7 : H6.read (.mt H0.n) 0 3 = some [.int .i64 (1), .int .i64 (wrapA .i64 (a - b)), .nils] := read_mt A6 (Nat.le_of_ble_eq_true rfl)
      refine w_ret ⟨.inr rfl, rfl, .tup [.agg [.int .i64 (1), .int .i64 (wrapA .i64 (a - b)), .nils], .int .i64 (0)], (show resultA Try.prog [.cell 6 24, .tmp 7] _ = _ by simp only [resultA, resultsA, envOf, val_set, ↓reduceIte, Nat.reduceEqDiff, Option.map_some, hr7, Ty.agg24, Ty.csz24] <;> rfl), ?_⟩
      exact ⟨by first | (simp [sumsS, outS, hc2, hc5]; done) | (exfalso; omega), E6⟩
    · have hc5 := dec_f hc5
      refine w_seq ?_
      refine w_region ?_
      refine o_rd (r_eq (a := op) (b := 41) (by simp only [ev, envOf, val_set, ofValue, ofCell, ↓reduceIte, Nat.reduceEqDiff] <;> rfl) (by simp only [ev, envOf, val_set, ofValue, ofCell, ↓reduceIte, Nat.reduceEqDiff] <;> rfl)) rfl rfl ?_
      refine o_rd (r_assign (by simp only [ev, envOf, val_set, ofValue, ofCell, ↓reduceIte, Nat.reduceEqDiff] <;> rfl)) rfl rfl ?_
      refine o_nil ?_
      refine w_cond (by simp only [ev, envOf, val_set, ofValue, ofCell, ↓reduceIte, Nat.reduceEqDiff] <;> rfl) (fun hc8 => ?_) (fun hc8 => ?_)
      · have hc8 := dec_t hc8
        refine w_region ?_
        refine o_rd (r_move (by simp only [ev, envOf, val_set, ofValue, ofCell, ↓reduceIte, Nat.reduceEqDiff] <;> rfl)) rfl rfl ?_
        refine o_rd (r_move (by simp only [ev, envOf, val_set, ofValue, ofCell, ↓reduceIte, Nat.reduceEqDiff] <;> rfl)) rfl rfl ?_
        refine o_rd (r_mulW (a := a) (b := b) (by simp only [ev, envOf, val_set, ofValue, ofCell, ↓reduceIte, Nat.reduceEqDiff] <;> rfl) (by simp only [ev, envOf, val_set, ofValue, ofCell, ↓reduceIte, Nat.reduceEqDiff] <;> rfl)) rfl rfl ?_
        refine o_rd (r_assign (by simp only [ev, envOf, val_set, ofValue, ofCell, ↓reduceIte, Nat.reduceEqDiff] <;> rfl)) rfl rfl ?_
        refine o_nil ?_
        refine w_seq ?_
        refine w_region ?_
        refine o_rd (r_move (by simp only [ev, envOf, val_set, ofValue, ofCell, ↓reduceIte, Nat.reduceEqDiff] <;> rfl)) rfl rfl ?_
        refine o_rd (r_build (cs := [.int .i64 (1), .int .i64 (wrapA .i64 (a * b)), .nils]) Ty.zero24 Ty.pl24 (by simp only [evParts, ev, envOf, val_set, ofValue, ofCell, ↓reduceIte, Nat.reduceEqDiff] <;> rfl) rfl) rfl rfl ?_
        refine o_st W1 (by simp only [ev, envOf, val_set, ofValue, ofCell, ↓reduceIte, Nat.reduceEqDiff] <;> rfl) (by simp only [ev, envOf, val_set, ofValue, ofCell, ↓reduceIte, Nat.reduceEqDiff] <;> rfl) A1 Ty.csz24 rfl (Nat.le_of_ble_eq_true rfl) (by rfl) rfl rfl ?_; intro H9 n9 W9 A9 K9
        have A9 : H9.at H0.n = some (.row [.int .i64 (1), .int .i64 (wrapA .i64 (a * b)), .nils] 24 false none) := A9
        have E9 := Ext.put W0 E1 (by have := E1.n; omega) K9 n9 W9
        refine o_rd (r_assign (by simp only [ev, envOf, val_set, ofValue, ofCell, ↓reduceIte, Nat.reduceEqDiff] <;> rfl)) rfl rfl ?_
        refine o_nil ?_
        have hr10 : H9.read (.mt H0.n) 0 3 = some [.int .i64 (1), .int .i64 (wrapA .i64 (a * b)), .nils] := read_mt A9 (Nat.le_of_ble_eq_true rfl)
        refine w_ret ⟨.inr rfl, rfl, .tup [.agg [.int .i64 (1), .int .i64 (wrapA .i64 (a * b)), .nils], .int .i64 (0)], (show resultA Try.prog [.cell 6 24, .tmp 7] _ = _ by simp only [resultA, resultsA, envOf, val_set, ↓reduceIte, Nat.reduceEqDiff, Option.map_some, hr10, Ty.agg24, Ty.csz24] <;> rfl), ?_⟩
        exact ⟨by first | (simp [sumsS, outS, hc2, hc5, hc8]; done) | (exfalso; omega), E9⟩
      · have hc8 := dec_f hc8
        refine w_seq ?_
        refine w_seq ?_
        refine w_region ?_
        refine o_rd (r_eq (a := op) (b := 42) (by simp only [ev, envOf, val_set, ofValue, ofCell, ↓reduceIte, Nat.reduceEqDiff] <;> rfl) (by simp only [ev, envOf, val_set, ofValue, ofCell, ↓reduceIte, Nat.reduceEqDiff] <;> rfl)) rfl rfl ?_
        refine o_rd (r_assign (by simp only [ev, envOf, val_set, ofValue, ofCell, ↓reduceIte, Nat.reduceEqDiff] <;> rfl)) rfl rfl ?_
        refine o_nil ?_
        refine w_cond (by simp only [ev, envOf, val_set, ofValue, ofCell, ↓reduceIte, Nat.reduceEqDiff] <;> rfl) (fun hc11 => ?_) (fun hc11 => ?_)
        · have hc11 := dec_t hc11
          refine w_skip ?_
          refine w_cond (by simp only [ev, envOf, val_set, ofValue, ofCell, ↓reduceIte, Nat.reduceEqDiff] <;> rfl) (fun hc12 => ?_) (fun hc12 => ?_)
          · have hc12 := dec_t hc12
            refine w_seq ?_
            refine w_seq ?_
            refine w_region ?_
            refine o_rd (r_move (by simp only [ev, envOf, val_set, ofValue, ofCell, ↓reduceIte, Nat.reduceEqDiff] <;> rfl)) rfl rfl ?_
            refine o_rd (r_eq (a := b) (b := 0) (by simp only [ev, envOf, val_set, ofValue, ofCell, ↓reduceIte, Nat.reduceEqDiff] <;> rfl) (by simp only [ev, envOf, val_set, ofValue, ofCell, ↓reduceIte, Nat.reduceEqDiff] <;> rfl)) rfl rfl ?_
            refine o_nil ?_
            refine w_cond (by simp only [ev, envOf, val_set, ofValue, ofCell, ↓reduceIte, Nat.reduceEqDiff] <;> rfl) (fun hc13 => ?_) (fun hc13 => ?_)
            · have hc13 := dec_t hc13
              refine w_seq ?_
              refine w_region ?_
              refine o_rd (r_build (cs := [.int .i64 (0), .int .i64 (0), .nils]) Ty.zero24 Ty.pl24 (by simp only [evParts, ev, envOf, val_set, ofValue, ofCell, ↓reduceIte, Nat.reduceEqDiff] <;> rfl) rfl) rfl rfl ?_
              refine o_st W1 (by simp only [ev, envOf, val_set, ofValue, ofCell, ↓reduceIte, Nat.reduceEqDiff] <;> rfl) (by simp only [ev, envOf, val_set, ofValue, ofCell, ↓reduceIte, Nat.reduceEqDiff] <;> rfl) A1 Ty.csz24 rfl (Nat.le_of_ble_eq_true rfl) (by rfl) rfl rfl ?_; intro H14 n14 W14 A14 K14
              have A14 : H14.at H0.n = some (.row [.int .i64 (0), .int .i64 (0), .nils] 24 false none) := A14
              have E14 := Ext.put W0 E1 (by have := E1.n; omega) K14 n14 W14
              refine o_rd (r_assign (by simp only [ev, envOf, val_set, ofValue, ofCell, ↓reduceIte, Nat.reduceEqDiff] <;> rfl)) rfl rfl ?_
              refine o_nil ?_
              have hr15 : H14.read (.mt H0.n) 0 3 = some [.int .i64 (0), .int .i64 (0), .nils] := read_mt A14 (Nat.le_of_ble_eq_true rfl)
              refine w_ret ⟨.inr rfl, rfl, .tup [.agg [.int .i64 (0), .int .i64 (0), .nils], .int .i64 (1)], (show resultA Try.prog [.cell 6 24, .tmp 7] _ = _ by simp only [resultA, resultsA, envOf, val_set, ↓reduceIte, Nat.reduceEqDiff, Option.map_some, hr15, Ty.agg24, Ty.csz24] <;> rfl), ?_⟩
              exact ⟨by first | (simp [sumsS, outS, hc2, hc5, hc8, hc11, hc12, hc13]; done) | (exfalso; omega), E14⟩
            · have hc13 := dec_f hc13
              refine w_skip ?_
              refine w_seq ?_
              refine w_region ?_
              refine o_rd (r_move (by simp only [ev, envOf, val_set, ofValue, ofCell, ↓reduceIte, Nat.reduceEqDiff] <;> rfl)) rfl rfl ?_
              refine o_rd (r_move (by simp only [ev, envOf, val_set, ofValue, ofCell, ↓reduceIte, Nat.reduceEqDiff] <;> rfl)) rfl rfl ?_
              refine o_rd (r_quoW (a := a) (b := b) (by assumption) (by simp only [ev, envOf, val_set, ofValue, ofCell, ↓reduceIte, Nat.reduceEqDiff] <;> rfl) (by simp only [ev, envOf, val_set, ofValue, ofCell, ↓reduceIte, Nat.reduceEqDiff] <;> rfl)) rfl rfl ?_
              refine o_rd (r_assign (by simp only [ev, envOf, val_set, ofValue, ofCell, ↓reduceIte, Nat.reduceEqDiff] <;> rfl)) rfl rfl ?_
              refine o_nil ?_
              refine w_seq ?_
              refine w_region ?_
              refine o_rd (r_move (by simp only [ev, envOf, val_set, ofValue, ofCell, ↓reduceIte, Nat.reduceEqDiff] <;> rfl)) rfl rfl ?_
              refine o_rd (r_eq (a := op) (b := 43) (by simp only [ev, envOf, val_set, ofValue, ofCell, ↓reduceIte, Nat.reduceEqDiff] <;> rfl) (by simp only [ev, envOf, val_set, ofValue, ofCell, ↓reduceIte, Nat.reduceEqDiff] <;> rfl)) rfl rfl ?_
              refine o_nil ?_
              refine w_cond (by simp only [ev, envOf, val_set, ofValue, ofCell, ↓reduceIte, Nat.reduceEqDiff] <;> rfl) (fun hc16 => ?_) (fun hc16 => ?_)
              · have hc16 := dec_t hc16
                refine w_region ?_
                refine o_rd (r_move (by simp only [ev, envOf, val_set, ofValue, ofCell, ↓reduceIte, Nat.reduceEqDiff] <;> rfl)) rfl rfl ?_
                refine o_rd (r_move (by simp only [ev, envOf, val_set, ofValue, ofCell, ↓reduceIte, Nat.reduceEqDiff] <;> rfl)) rfl rfl ?_
                refine o_rd (r_remW (a := a) (b := b) (by assumption) (by simp only [ev, envOf, val_set, ofValue, ofCell, ↓reduceIte, Nat.reduceEqDiff] <;> rfl) (by simp only [ev, envOf, val_set, ofValue, ofCell, ↓reduceIte, Nat.reduceEqDiff] <;> rfl)) rfl rfl ?_
                refine o_rd (r_assign (by simp only [ev, envOf, val_set, ofValue, ofCell, ↓reduceIte, Nat.reduceEqDiff] <;> rfl)) rfl rfl ?_
                refine o_nil ?_
                refine w_seq ?_
                refine w_region ?_
                refine o_rd (r_move (by simp only [ev, envOf, val_set, ofValue, ofCell, ↓reduceIte, Nat.reduceEqDiff] <;> rfl)) rfl rfl ?_
                refine o_rd (r_build (cs := [.int .i64 (1), .int .i64 (Int.tmod (a) (b)), .nils]) Ty.zero24 Ty.pl24 (by simp only [evParts, ev, envOf, val_set, ofValue, ofCell, ↓reduceIte, Nat.reduceEqDiff] <;> rfl) rfl) rfl rfl ?_
                refine o_st W1 (by simp only [ev, envOf, val_set, ofValue, ofCell, ↓reduceIte, Nat.reduceEqDiff] <;> rfl) (by simp only [ev, envOf, val_set, ofValue, ofCell, ↓reduceIte, Nat.reduceEqDiff] <;> rfl) A1 Ty.csz24 rfl (Nat.le_of_ble_eq_true rfl) (by rfl) rfl rfl ?_; intro H17 n17 W17 A17 K17
                have A17 : H17.at H0.n = some (.row [.int .i64 (1), .int .i64 (Int.tmod (a) (b)), .nils] 24 false none) := A17
                have E17 := Ext.put W0 E1 (by have := E1.n; omega) K17 n17 W17
                refine o_rd (r_assign (by simp only [ev, envOf, val_set, ofValue, ofCell, ↓reduceIte, Nat.reduceEqDiff] <;> rfl)) rfl rfl ?_
                refine o_nil ?_
                have hr18 : H17.read (.mt H0.n) 0 3 = some [.int .i64 (1), .int .i64 (Int.tmod (a) (b)), .nils] := read_mt A17 (Nat.le_of_ble_eq_true rfl)
                refine w_ret ⟨.inr rfl, rfl, .tup [.agg [.int .i64 (1), .int .i64 (Int.tmod (a) (b)), .nils], .int .i64 (0)], (show resultA Try.prog [.cell 6 24, .tmp 7] _ = _ by simp only [resultA, resultsA, envOf, val_set, ↓reduceIte, Nat.reduceEqDiff, Option.map_some, hr18, Ty.agg24, Ty.csz24] <;> rfl), ?_⟩
                exact ⟨by first | (simp [sumsS, outS, hc2, hc5, hc8, hc11, hc12, hc13, hc16]; done) | (exfalso; omega), E17⟩
              · have hc16 := dec_f hc16
                refine w_skip ?_
                refine w_seq ?_
                refine w_region ?_
                refine o_rd (r_move (by simp only [ev, envOf, val_set, ofValue, ofCell, ↓reduceIte, Nat.reduceEqDiff] <;> rfl)) rfl rfl ?_
                refine o_rd (r_build (cs := [.int .i64 (1), .int .i64 (wrapA .i64 (Int.tdiv (a) (b))), .nils]) Ty.zero24 Ty.pl24 (by simp only [evParts, ev, envOf, val_set, ofValue, ofCell, ↓reduceIte, Nat.reduceEqDiff] <;> rfl) rfl) rfl rfl ?_
                refine o_st W1 (by simp only [ev, envOf, val_set, ofValue, ofCell, ↓reduceIte, Nat.reduceEqDiff] <;> rfl) (by simp only [ev, envOf, val_set, ofValue, ofCell, ↓reduceIte, Nat.reduceEqDiff] <;> rfl) A1 Ty.csz24 rfl (Nat.le_of_ble_eq_true rfl) (by rfl) rfl rfl ?_; intro H19 n19 W19 A19 K19
                have A19 : H19.at H0.n = some (.row [.int .i64 (1), .int .i64 (wrapA .i64 (Int.tdiv (a) (b))), .nils] 24 false none) := A19
                have E19 := Ext.put W0 E1 (by have := E1.n; omega) K19 n19 W19
                refine o_rd (r_assign (by simp only [ev, envOf, val_set, ofValue, ofCell, ↓reduceIte, Nat.reduceEqDiff] <;> rfl)) rfl rfl ?_
                refine o_nil ?_
                have hr20 : H19.read (.mt H0.n) 0 3 = some [.int .i64 (1), .int .i64 (wrapA .i64 (Int.tdiv (a) (b))), .nils] := read_mt A19 (Nat.le_of_ble_eq_true rfl)
                refine w_ret ⟨.inr rfl, rfl, .tup [.agg [.int .i64 (1), .int .i64 (wrapA .i64 (Int.tdiv (a) (b))), .nils], .int .i64 (0)], (show resultA Try.prog [.cell 6 24, .tmp 7] _ = _ by simp only [resultA, resultsA, envOf, val_set, ↓reduceIte, Nat.reduceEqDiff, Option.map_some, hr20, Ty.agg24, Ty.csz24] <;> rfl), ?_⟩
                exact ⟨by first | (simp [sumsS, outS, hc2, hc5, hc8, hc11, hc12, hc13, hc16]; done) | (exfalso; omega), E19⟩
          · have hc12 := dec_f hc12
            refine w_seq ?_
            refine w_region ?_
            refine o_rd (r_eq (a := op) (b := 23) (by simp only [ev, envOf, val_set, ofValue, ofCell, ↓reduceIte, Nat.reduceEqDiff] <;> rfl) (by simp only [ev, envOf, val_set, ofValue, ofCell, ↓reduceIte, Nat.reduceEqDiff] <;> rfl)) rfl rfl ?_
            refine o_rd (r_assign (by simp only [ev, envOf, val_set, ofValue, ofCell, ↓reduceIte, Nat.reduceEqDiff] <;> rfl)) rfl rfl ?_
            refine o_nil ?_
            refine w_cond (by simp only [ev, envOf, val_set, ofValue, ofCell, ↓reduceIte, Nat.reduceEqDiff] <;> rfl) (fun hc21 => ?_) (fun hc21 => ?_)
            · have hc21 := dec_t hc21
              refine w_seq ?_
              refine w_region ?_
              refine o_rd (r_move (by simp only [ev, envOf, val_set, ofValue, ofCell, ↓reduceIte, Nat.reduceEqDiff] <;> rfl)) rfl rfl ?_
              refine o_rd (r_move (by simp only [ev, envOf, val_set, ofValue, ofCell, ↓reduceIte, Nat.reduceEqDiff] <;> rfl)) rfl rfl ?_
              refine o_rd (r_lt (a := a) (b := b) (by simp only [ev, envOf, val_set, ofValue, ofCell, ↓reduceIte, Nat.reduceEqDiff] <;> rfl) (by simp only [ev, envOf, val_set, ofValue, ofCell, ↓reduceIte, Nat.reduceEqDiff] <;> rfl)) rfl rfl ?_
              refine o_cl rfl rfl (by simp only [evs, ev, envOf, val_set, ofValue, ofCell, ↓reduceIte, Nat.reduceEqDiff] <;> rfl) rfl (flag_fin ho W1 (decide (a < b))) rfl rfl ?_; rintro _ H22 ⟨rfl, X22⟩
              have W22 := X22.wf; have E22 := E1.trans X22
              have A1 := X22.keep _ _ A1
              have n22 := X22.n
              refine o_st W22 (by simp only [ev, envOf, val_set, ofValue, ofCell, ↓reduceIte, Nat.reduceEqDiff] <;> rfl) (by simp only [ev, envOf, val_set, ofValue, ofCell, ↓reduceIte, Nat.reduceEqDiff] <;> rfl) A1 Ty.csz24 rfl (Nat.le_of_ble_eq_true rfl) (by rfl) rfl rfl ?_; intro H23 n23 W23 A23 K23
              have A23 : H23.at H0.n = some (.row [.int .i64 (2), .int .i64 (flagN (decide (a < b))), .nils] 24 false none) := A23
              have E23 := Ext.put W0 E22 (by have := E22.n; omega) K23 n23 W23
              refine o_rd (r_assign (by simp only [ev, envOf, val_set, ofValue, ofCell, ↓reduceIte, Nat.reduceEqDiff] <;> rfl)) rfl rfl ?_
              refine o_nil ?_
              have hr24 : H23.read (.mt H0.n) 0 3 = some [.int .i64 (2), .int .i64 (flagN (decide (a < b))), .nils] := read_mt A23 (Nat.le_of_ble_eq_true rfl)
              refine w_ret ⟨.inr rfl, rfl, .tup [.agg [.int .i64 (2), .int .i64 (flagN (decide (a < b))), .nils], .int .i64 (0)], (show resultA Try.prog [.cell 6 24, .tmp 7] _ = _ by simp only [resultA, resultsA, envOf, val_set, ↓reduceIte, Nat.reduceEqDiff, Option.map_some, hr24, Ty.agg24, Ty.csz24] <;> rfl), ?_⟩
              exact ⟨by first | (simp [sumsS, outS, hc2, hc5, hc8, hc11, hc12, hc21]; done) | (exfalso; omega), E23⟩
            · have hc21 := dec_f hc21
              refine w_seq ?_
              refine w_region ?_
              refine o_rd (r_eq (a := op) (b := 24) (by simp only [ev, envOf, val_set, ofValue, ofCell, ↓reduceIte, Nat.reduceEqDiff] <;> rfl) (by simp only [ev, envOf, val_set, ofValue, ofCell, ↓reduceIte, Nat.reduceEqDiff] <;> rfl)) rfl rfl ?_
              refine o_rd (r_assign (by simp only [ev, envOf, val_set, ofValue, ofCell, ↓reduceIte, Nat.reduceEqDiff] <;> rfl)) rfl rfl ?_
              refine o_nil ?_
              refine w_cond (by simp only [ev, envOf, val_set, ofValue, ofCell, ↓reduceIte, Nat.reduceEqDiff] <;> rfl) (fun hc25 => ?_) (fun hc25 => ?_)
              · have hc25 := dec_t hc25
                refine w_seq ?_
                refine w_region ?_
                refine o_rd (r_move (by simp only [ev, envOf, val_set, ofValue, ofCell, ↓reduceIte, Nat.reduceEqDiff] <;> rfl)) rfl rfl ?_
                refine o_rd (r_move (by simp only [ev, envOf, val_set, ofValue, ofCell, ↓reduceIte, Nat.reduceEqDiff] <;> rfl)) rfl rfl ?_
                refine o_rd (r_le (a := a) (b := b) (by simp only [ev, envOf, val_set, ofValue, ofCell, ↓reduceIte, Nat.reduceEqDiff] <;> rfl) (by simp only [ev, envOf, val_set, ofValue, ofCell, ↓reduceIte, Nat.reduceEqDiff] <;> rfl)) rfl rfl ?_
                refine o_cl rfl rfl (by simp only [evs, ev, envOf, val_set, ofValue, ofCell, ↓reduceIte, Nat.reduceEqDiff] <;> rfl) rfl (flag_fin ho W1 (decide (a ≤ b))) rfl rfl ?_; rintro _ H26 ⟨rfl, X26⟩
                have W26 := X26.wf; have E26 := E1.trans X26
                have A1 := X26.keep _ _ A1
                have n26 := X26.n
                refine o_st W26 (by simp only [ev, envOf, val_set, ofValue, ofCell, ↓reduceIte, Nat.reduceEqDiff] <;> rfl) (by simp only [ev, envOf, val_set, ofValue, ofCell, ↓reduceIte, Nat.reduceEqDiff] <;> rfl) A1 Ty.csz24 rfl (Nat.le_of_ble_eq_true rfl) (by rfl) rfl rfl ?_; intro H27 n27 W27 A27 K27
                have A27 : H27.at H0.n = some (.row [.int .i64 (2), .int .i64 (flagN (decide (a ≤ b))), .nils] 24 false none) := A27
                have E27 := Ext.put W0 E26 (by have := E26.n; omega) K27 n27 W27
                refine o_rd (r_assign (by simp only [ev, envOf, val_set, ofValue, ofCell, ↓reduceIte, Nat.reduceEqDiff] <;> rfl)) rfl rfl ?_
                refine o_nil ?_
                have hr28 : H27.read (.mt H0.n) 0 3 = some [.int .i64 (2), .int .i64 (flagN (decide (a ≤ b))), .nils] := read_mt A27 (Nat.le_of_ble_eq_true rfl)
                refine w_ret ⟨.inr rfl, rfl, .tup [.agg [.int .i64 (2), .int .i64 (flagN (decide (a ≤ b))), .nils], .int .i64 (0)], (show resultA Try.prog [.cell 6 24, .tmp 7] _ = _ by simp only [resultA, resultsA, envOf, val_set, ↓reduceIte, Nat.reduceEqDiff, Option.map_some, hr28, Ty.agg24, Ty.csz24] <;> rfl), ?_⟩
                exact ⟨by first | (simp [sumsS, outS, hc2, hc5, hc8, hc11, hc12, hc21, hc25]; done) | (exfalso; omega), E27⟩
              · have hc25 := dec_f hc25
                refine w_seq ?_
                refine w_region ?_
                refine o_rd (r_eq (a := op) (b := 25) (by simp only [ev, envOf, val_set, ofValue, ofCell, ↓reduceIte, Nat.reduceEqDiff] <;> rfl) (by simp only [ev, envOf, val_set, ofValue, ofCell, ↓reduceIte, Nat.reduceEqDiff] <;> rfl)) rfl rfl ?_
                refine o_rd (r_assign (by simp only [ev, envOf, val_set, ofValue, ofCell, ↓reduceIte, Nat.reduceEqDiff] <;> rfl)) rfl rfl ?_
                refine o_nil ?_
                refine w_cond (by simp only [ev, envOf, val_set, ofValue, ofCell, ↓reduceIte, Nat.reduceEqDiff] <;> rfl) (fun hc29 => ?_) (fun hc29 => ?_)
                · have hc29 := dec_t hc29
                  refine w_seq ?_
                  refine w_region ?_
                  refine o_rd (r_move (by simp only [ev, envOf, val_set, ofValue, ofCell, ↓reduceIte, Nat.reduceEqDiff] <;> rfl)) rfl rfl ?_
                  refine o_rd (r_move (by simp only [ev, envOf, val_set, ofValue, ofCell, ↓reduceIte, Nat.reduceEqDiff] <;> rfl)) rfl rfl ?_
                  refine o_rd (r_gt (a := a) (b := b) (by simp only [ev, envOf, val_set, ofValue, ofCell, ↓reduceIte, Nat.reduceEqDiff] <;> rfl) (by simp only [ev, envOf, val_set, ofValue, ofCell, ↓reduceIte, Nat.reduceEqDiff] <;> rfl)) rfl rfl ?_
                  refine o_cl rfl rfl (by simp only [evs, ev, envOf, val_set, ofValue, ofCell, ↓reduceIte, Nat.reduceEqDiff] <;> rfl) rfl (flag_fin ho W1 (decide (b < a))) rfl rfl ?_; rintro _ H30 ⟨rfl, X30⟩
                  have W30 := X30.wf; have E30 := E1.trans X30
                  have A1 := X30.keep _ _ A1
                  have n30 := X30.n
                  refine o_st W30 (by simp only [ev, envOf, val_set, ofValue, ofCell, ↓reduceIte, Nat.reduceEqDiff] <;> rfl) (by simp only [ev, envOf, val_set, ofValue, ofCell, ↓reduceIte, Nat.reduceEqDiff] <;> rfl) A1 Ty.csz24 rfl (Nat.le_of_ble_eq_true rfl) (by rfl) rfl rfl ?_; intro H31 n31 W31 A31 K31
                  have A31 : H31.at H0.n = some (.row [.int .i64 (2), .int .i64 (flagN (decide (b < a))), .nils] 24 false none) := A31
                  have E31 := Ext.put W0 E30 (by have := E30.n; omega) K31 n31 W31
                  refine o_rd (r_assign (by simp only [ev, envOf, val_set, ofValue, ofCell, ↓reduceIte, Nat.reduceEqDiff] <;> rfl)) rfl rfl ?_
                  refine o_nil ?_
                  have hr32 : H31.read (.mt H0.n) 0 3 = some [.int .i64 (2), .int .i64 (flagN (decide (b < a))), .nils] := read_mt A31 (Nat.le_of_ble_eq_true rfl)
                  refine w_ret ⟨.inr rfl, rfl, .tup [.agg [.int .i64 (2), .int .i64 (flagN (decide (b < a))), .nils], .int .i64 (0)], (show resultA Try.prog [.cell 6 24, .tmp 7] _ = _ by simp only [resultA, resultsA, envOf, val_set, ↓reduceIte, Nat.reduceEqDiff, Option.map_some, hr32, Ty.agg24, Ty.csz24] <;> rfl), ?_⟩
                  exact ⟨by first | (simp [sumsS, outS, hc2, hc5, hc8, hc11, hc12, hc21, hc25, hc29]; done) | (exfalso; omega), E31⟩
                · have hc29 := dec_f hc29
                  refine w_seq ?_
                  refine w_region ?_
                  refine o_rd (r_eq (a := op) (b := 26) (by simp only [ev, envOf, val_set, ofValue, ofCell, ↓reduceIte, Nat.reduceEqDiff] <;> rfl) (by simp only [ev, envOf, val_set, ofValue, ofCell, ↓reduceIte, Nat.reduceEqDiff] <;> rfl)) rfl rfl ?_
                  refine o_rd (r_assign (by simp only [ev, envOf, val_set, ofValue, ofCell, ↓reduceIte, Nat.reduceEqDiff] <;> rfl)) rfl rfl ?_
                  refine o_nil ?_
                  refine w_cond (by simp only [ev, envOf, val_set, ofValue, ofCell, ↓reduceIte, Nat.reduceEqDiff] <;> rfl) (fun hc33 => ?_) (fun hc33 => ?_)
                  · have hc33 := dec_t hc33
                    refine w_seq ?_
                    refine w_region ?_
                    refine o_rd (r_move (by simp only [ev, envOf, val_set, ofValue, ofCell, ↓reduceIte, Nat.reduceEqDiff] <;> rfl)) rfl rfl ?_
                    refine o_rd (r_move (by simp only [ev, envOf, val_set, ofValue, ofCell, ↓reduceIte, Nat.reduceEqDiff] <;> rfl)) rfl rfl ?_
                    refine o_rd (r_ge (a := a) (b := b) (by simp only [ev, envOf, val_set, ofValue, ofCell, ↓reduceIte, Nat.reduceEqDiff] <;> rfl) (by simp only [ev, envOf, val_set, ofValue, ofCell, ↓reduceIte, Nat.reduceEqDiff] <;> rfl)) rfl rfl ?_
                    refine o_cl rfl rfl (by simp only [evs, ev, envOf, val_set, ofValue, ofCell, ↓reduceIte, Nat.reduceEqDiff] <;> rfl) rfl (flag_fin ho W1 (decide (b ≤ a))) rfl rfl ?_; rintro _ H34 ⟨rfl, X34⟩
                    have W34 := X34.wf; have E34 := E1.trans X34
                    have A1 := X34.keep _ _ A1
                    have n34 := X34.n
                    refine o_st W34 (by simp only [ev, envOf, val_set, ofValue, ofCell, ↓reduceIte, Nat.reduceEqDiff] <;> rfl) (by simp only [ev, envOf, val_set, ofValue, ofCell, ↓reduceIte, Nat.reduceEqDiff] <;> rfl) A1 Ty.csz24 rfl (Nat.le_of_ble_eq_true rfl) (by rfl) rfl rfl ?_; intro H35 n35 W35 A35 K35
                    have A35 : H35.at H0.n = some (.row [.int .i64 (2), .int .i64 (flagN (decide (b ≤ a))), .nils] 24 false none) := A35
                    have E35 := Ext.put W0 E34 (by have := E34.n; omega) K35 n35 W35
                    refine o_rd (r_assign (by simp only [ev, envOf, val_set, ofValue, ofCell, ↓reduceIte, Nat.reduceEqDiff] <;> rfl)) rfl rfl ?_
                    refine o_nil ?_
                    have hr36 : H35.read (.mt H0.n) 0 3 = some [.int .i64 (2), .int .i64 (flagN (decide (b ≤ a))), .nils] := read_mt A35 (Nat.le_of_ble_eq_true rfl)
                    refine w_ret ⟨.inr rfl, rfl, .tup [.agg [.int .i64 (2), .int .i64 (flagN (decide (b ≤ a))), .nils], .int .i64 (0)], (show resultA Try.prog [.cell 6 24, .tmp 7] _ = _ by simp only [resultA, resultsA, envOf, val_set, ↓reduceIte, Nat.reduceEqDiff, Option.map_some, hr36, Ty.agg24, Ty.csz24] <;> rfl), ?_⟩
                    exact ⟨by first | (simp [sumsS, outS, hc2, hc5, hc8, hc11, hc12, hc21, hc25, hc29, hc33]; done) | (exfalso; omega), E35⟩
                  · have hc33 := dec_f hc33
                    refine w_seq ?_
                    refine w_region ?_
                    refine o_rd (r_build (cs := [.int .i64 (0), .int .i64 (0), .nils]) Ty.zero24 Ty.pl24 (by simp only [evParts, ev, envOf, val_set, ofValue, ofCell, ↓reduceIte, Nat.reduceEqDiff] <;> rfl) rfl) rfl rfl ?_
                    refine o_st W1 (by simp only [ev, envOf, val_set, ofValue, ofCell, ↓reduceIte, Nat.reduceEqDiff] <;> rfl) (by simp only [ev, envOf, val_set, ofValue, ofCell, ↓reduceIte, Nat.reduceEqDiff] <;> rfl) A1 Ty.csz24 rfl (Nat.le_of_ble_eq_true rfl) (by rfl) rfl rfl ?_; intro H37 n37 W37 A37 K37
                    have A37 : H37.at H0.n = some (.row [.int .i64 (0), .int .i64 (0), .nils] 24 false none) := A37
                    have E37 := Ext.put W0 E1 (by have := E1.n; omega) K37 n37 W37
                    refine o_rd (r_assign (by simp only [ev, envOf, val_set, ofValue, ofCell, ↓reduceIte, Nat.reduceEqDiff] <;> rfl)) rfl rfl ?_
                    refine o_nil ?_
                    have hr38 : H37.read (.mt H0.n) 0 3 = some [.int .i64 (0), .int .i64 (0), .nils] := read_mt A37 (Nat.le_of_ble_eq_true rfl)
                    refine w_ret ⟨.inr rfl, rfl, .tup [.agg [.int .i64 (0), .int .i64 (0), .nils], .int .i64 (5)], (show resultA Try.prog [.cell 6 24, .tmp 7] _ = _ by simp only [resultA, resultsA, envOf, val_set, ↓reduceIte, Nat.reduceEqDiff, Option.map_some, hr38, Ty.agg24, Ty.csz24] <;> rfl), ?_⟩
                    exact ⟨by first | (simp [sumsS, outS, hc2, hc5, hc8, hc11, hc12, hc21, hc25, hc29, hc33]; done) | (exfalso; omega), E37⟩
        · have hc11 := dec_f hc11
          refine w_region ?_
          refine o_rd (r_eq (a := op) (b := 43) (by simp only [ev, envOf, val_set, ofValue, ofCell, ↓reduceIte, Nat.reduceEqDiff] <;> rfl) (by simp only [ev, envOf, val_set, ofValue, ofCell, ↓reduceIte, Nat.reduceEqDiff] <;> rfl)) rfl rfl ?_
          refine o_rd (r_assign (by simp only [ev, envOf, val_set, ofValue, ofCell, ↓reduceIte, Nat.reduceEqDiff] <;> rfl)) rfl rfl ?_
          refine o_nil ?_
          refine w_cond (by simp only [ev, envOf, val_set, ofValue, ofCell, ↓reduceIte, Nat.reduceEqDiff] <;> rfl) (fun hc39 => ?_) (fun hc39 => ?_)
          · have hc39 := dec_t hc39
            refine w_seq ?_
            refine w_seq ?_
            refine w_region ?_
            refine o_rd (r_move (by simp only [ev, envOf, val_set, ofValue, ofCell, ↓reduceIte, Nat.reduceEqDiff] <;> rfl)) rfl rfl ?_
            refine o_rd (r_eq (a := b) (b := 0) (by simp only [ev, envOf, val_set, ofValue, ofCell, ↓reduceIte, Nat.reduceEqDiff] <;> rfl) (by simp only [ev, envOf, val_set, ofValue, ofCell, ↓reduceIte, Nat.reduceEqDiff] <;> rfl)) rfl rfl ?_
            refine o_nil ?_
            refine w_cond (by simp only [ev, envOf, val_set, ofValue, ofCell, ↓reduceIte, Nat.reduceEqDiff] <;> rfl) (fun hc40 => ?_) (fun hc40 => ?_)
            · have hc40 := dec_t hc40
              refine w_seq ?_
              refine w_region ?_
              refine o_rd (r_build (cs := [.int .i64 (0), .int .i64 (0), .nils]) Ty.zero24 Ty.pl24 (by simp only [evParts, ev, envOf, val_set, ofValue, ofCell, ↓reduceIte, Nat.reduceEqDiff] <;> rfl) rfl) rfl rfl ?_
              refine o_st W1 (by simp only [ev, envOf, val_set, ofValue, ofCell, ↓reduceIte, Nat.reduceEqDiff] <;> rfl) (by simp only [ev, envOf, val_set, ofValue, ofCell, ↓reduceIte, Nat.reduceEqDiff] <;> rfl) A1 Ty.csz24 rfl (Nat.le_of_ble_eq_true rfl) (by rfl) rfl rfl ?_; intro H41 n41 W41 A41 K41
              have A41 : H41.at H0.n = some (.row [.int .i64 (0), .int .i64 (0), .nils] 24 false none) := A41
              have E41 := Ext.put W0 E1 (by have := E1.n; omega) K41 n41 W41
              refine o_rd (r_assign (by simp only [ev, envOf, val_set, ofValue, ofCell, ↓reduceIte, Nat.reduceEqDiff] <;> rfl)) rfl rfl ?_
              refine o_nil ?_
              have hr42 : H41.read (.mt H0.n) 0 3 = some [.int .i64 (0), .int .i64 (0), .nils] := read_mt A41 (Nat.le_of_ble_eq_true rfl)
              refine w_ret ⟨.inr rfl, rfl, .tup [.agg [.int .i64 (0), .int .i64 (0), .nils], .int .i64 (1)], (show resultA Try.prog [.cell 6 24, .tmp 7] _ = _ by simp only [resultA, resultsA, envOf, val_set, ↓reduceIte, Nat.reduceEqDiff, Option.map_some, hr42, Ty.agg24, Ty.csz24] <;> rfl), ?_⟩
              exact ⟨by first | (simp [sumsS, outS, hc2, hc5, hc8, hc11, hc39, hc40]; done) | (exfalso; omega), E41⟩
            · have hc40 := dec_f hc40
              refine w_skip ?_
              refine w_seq ?_
              refine w_region ?_
              refine o_rd (r_move (by simp only [ev, envOf, val_set, ofValue, ofCell, ↓reduceIte, Nat.reduceEqDiff] <;> rfl)) rfl rfl ?_
              refine o_rd (r_move (by simp only [ev, envOf, val_set, ofValue, ofCell, ↓reduceIte, Nat.reduceEqDiff] <;> rfl)) rfl rfl ?_
              refine o_rd (r_quoW (a := a) (b := b) (by assumption) (by simp only [ev, envOf, val_set, ofValue, ofCell, ↓reduceIte, Nat.reduceEqDiff] <;> rfl) (by simp only [ev, envOf, val_set, ofValue, ofCell, ↓reduceIte, Nat.reduceEqDiff] <;> rfl)) rfl rfl ?_
              refine o_rd (r_assign (by simp only [ev, envOf, val_set, ofValue, ofCell, ↓reduceIte, Nat.reduceEqDiff] <;> rfl)) rfl rfl ?_
              refine o_nil ?_
              refine w_seq ?_
              refine w_region ?_
              refine o_rd (r_move (by simp only [ev, envOf, val_set, ofValue, ofCell, ↓reduceIte, Nat.reduceEqDiff] <;> rfl)) rfl rfl ?_
              refine o_rd (r_eq (a := op) (b := 43) (by simp only [ev, envOf, val_set, ofValue, ofCell, ↓reduceIte, Nat.reduceEqDiff] <;> rfl) (by simp only [ev, envOf, val_set, ofValue, ofCell, ↓reduceIte, Nat.reduceEqDiff] <;> rfl)) rfl rfl ?_
              refine o_nil ?_
              refine w_cond (by simp only [ev, envOf, val_set, ofValue, ofCell, ↓reduceIte, Nat.reduceEqDiff] <;> rfl) (fun hc43 => ?_) (fun hc43 => ?_)
              · have hc43 := dec_t hc43
                refine w_region ?_
                refine o_rd (r_move (by simp only [ev, envOf, val_set, ofValue, ofCell, ↓reduceIte, Nat.reduceEqDiff] <;> rfl)) rfl rfl ?_
                refine o_rd (r_move (by simp only [ev, envOf, val_set, ofValue, ofCell, ↓reduceIte, Nat.reduceEqDiff] <;> rfl)) rfl rfl ?_
                refine o_rd (r_remW (a := a) (b := b) (by assumption) (by simp only [ev, envOf, val_set, ofValue, ofCell, ↓reduceIte, Nat.reduceEqDiff] <;> rfl) (by simp only [ev, envOf, val_set, ofValue, ofCell, ↓reduceIte, Nat.reduceEqDiff] <;> rfl)) rfl rfl ?_
                refine o_rd (r_assign (by simp only [ev, envOf, val_set, ofValue, ofCell, ↓reduceIte, Nat.reduceEqDiff] <;> rfl)) rfl rfl ?_
                refine o_nil ?_
                refine w_seq ?_
                refine w_region ?_
                refine o_rd (r_move (by simp only [ev, envOf, val_set, ofValue, ofCell, ↓reduceIte, Nat.reduceEqDiff] <;> rfl)) rfl rfl ?_
                refine o_rd (r_build (cs := [.int .i64 (1), .int .i64 (Int.tmod (a) (b)), .nils]) Ty.zero24 Ty.pl24 (by simp only [evParts, ev, envOf, val_set, ofValue, ofCell, ↓reduceIte, Nat.reduceEqDiff] <;> rfl) rfl) rfl rfl ?_
                refine o_st W1 (by simp only [ev, envOf, val_set, ofValue, ofCell, ↓reduceIte, Nat.reduceEqDiff] <;> rfl) (by simp only [ev, envOf, val_set, ofValue, ofCell, ↓reduceIte, Nat.reduceEqDiff] <;> rfl) A1 Ty.csz24 rfl (Nat.le_of_ble_eq_true rfl) (by rfl) rfl rfl ?_; intro H44 n44 W44 A44 K44
                have A44 : H44.at H0.n = some (.row [.int .i64 (1), .int .i64 (Int.tmod (a) (b)), .nils] 24 false none) := A44
                have E44 := Ext.put W0 E1 (by have := E1.n; omega) K44 n44 W44
                refine o_rd (r_assign (by simp only [ev, envOf, val_set, ofValue, ofCell, ↓reduceIte, Nat.reduceEqDiff] <;> rfl)) rfl rfl ?_
                refine o_nil ?_
                have hr45 : H44.read (.mt H0.n) 0 3 = some [.int .i64 (1), .int .i64 (Int.tmod (a) (b)), .nils] := read_mt A44 (Nat.le_of_ble_eq_true rfl)
                refine w_ret ⟨.inr rfl, rfl, .tup [.agg [.int .i64 (1), .int .i64 (Int.tmod (a) (b)), .nils], .int .i64 (0)], (show resultA Try.prog [.cell 6 24, .tmp 7] _ = _ by simp only [resultA, resultsA, envOf, val_set, ↓reduceIte, Nat.reduceEqDiff, Option.map_some, hr45, Ty.agg24, Ty.csz24] <;> rfl), ?_⟩
                exact ⟨by first | (simp [sumsS, outS, hc2, hc5, hc8, hc11, hc39, hc40, hc43]; done) | (exfalso; omega), E44⟩
              · have hc43 := dec_f hc43
                refine w_skip ?_
                refine w_seq ?_
                refine w_region ?_
                refine o_rd (r_move (by simp only [ev, envOf, val_set, ofValue, ofCell, ↓reduceIte, Nat.reduceEqDiff] <;> rfl)) rfl rfl ?_
                refine o_rd (r_build (cs := [.int .i64 (1), .int .i64 (wrapA .i64 (Int.tdiv (a) (b))), .nils]) Ty.zero24 Ty.pl24 (by simp only [evParts, ev, envOf, val_set, ofValue, ofCell, ↓reduceIte, Nat.reduceEqDiff] <;> rfl) rfl) rfl rfl ?_
                refine o_st W1 (by simp only [ev, envOf, val_set, ofValue, ofCell, ↓reduceIte, Nat.reduceEqDiff] <;> rfl) (by simp only [ev, envOf, val_set, ofValue, ofCell, ↓reduceIte, Nat.reduceEqDiff] <;> rfl) A1 Ty.csz24 rfl (Nat.le_of_ble_eq_true rfl) (by rfl) rfl rfl ?_; intro H46 n46 W46 A46 K46
                have A46 : H46.at H0.n = some (.row [.int .i64 (1), .int .i64 (wrapA .i64 (Int.tdiv (a) (b))), .nils] 24 false none) := A46
                have E46 := Ext.put W0 E1 (by have := E1.n; omega) K46 n46 W46
                refine o_rd (r_assign (by simp only [ev, envOf, val_set, ofValue, ofCell, ↓reduceIte, Nat.reduceEqDiff] <;> rfl)) rfl rfl ?_
                refine o_nil ?_
                have hr47 : H46.read (.mt H0.n) 0 3 = some [.int .i64 (1), .int .i64 (wrapA .i64 (Int.tdiv (a) (b))), .nils] := read_mt A46 (Nat.le_of_ble_eq_true rfl)
                refine w_ret ⟨.inr rfl, rfl, .tup [.agg [.int .i64 (1), .int .i64 (wrapA .i64 (Int.tdiv (a) (b))), .nils], .int .i64 (0)], (show resultA Try.prog [.cell 6 24, .tmp 7] _ = _ by simp only [resultA, resultsA, envOf, val_set, ↓reduceIte, Nat.reduceEqDiff, Option.map_some, hr47, Ty.agg24, Ty.csz24] <;> rfl), ?_⟩
                exact ⟨by first | (simp [sumsS, outS, hc2, hc5, hc8, hc11, hc39, hc40, hc43]; done) | (exfalso; omega), E46⟩
          · have hc39 := dec_f hc39
            refine w_seq ?_
            refine w_region ?_
            refine o_rd (r_eq (a := op) (b := 23) (by simp only [ev, envOf, val_set, ofValue, ofCell, ↓reduceIte, Nat.reduceEqDiff] <;> rfl) (by simp only [ev, envOf, val_set, ofValue, ofCell, ↓reduceIte, Nat.reduceEqDiff] <;> rfl)) rfl rfl ?_
            refine o_rd (r_assign (by simp only [ev, envOf, val_set, ofValue, ofCell, ↓reduceIte, Nat.reduceEqDiff] <;> rfl)) rfl rfl ?_
            refine o_nil ?_
            refine w_cond (by simp only [ev, envOf, val_set, ofValue, ofCell, ↓reduceIte, Nat.reduceEqDiff] <;> rfl) (fun hc48 => ?_) (fun hc48 => ?_)
            · have hc48 := dec_t hc48
              refine w_seq ?_
              refine w_region ?_
              refine o_rd (r_move (by simp only [ev, envOf, val_set, ofValue, ofCell, ↓reduceIte, Nat.reduceEqDiff] <;> rfl)) rfl rfl ?_
              refine o_rd (r_move (by simp only [ev, envOf, val_set, ofValue, ofCell, ↓reduceIte, Nat.reduceEqDiff] <;> rfl)) rfl rfl ?_
              refine o_rd (r_lt (a := a) (b := b) (by simp only [ev, envOf, val_set, ofValue, ofCell, ↓reduceIte, Nat.reduceEqDiff] <;> rfl) (by simp only [ev, envOf, val_set, ofValue, ofCell, ↓reduceIte, Nat.reduceEqDiff] <;> rfl)) rfl rfl ?_
              refine o_cl rfl rfl (by simp only [evs, ev, envOf, val_set, ofValue, ofCell, ↓reduceIte, Nat.reduceEqDiff] <;> rfl) rfl (flag_fin ho W1 (decide (a < b))) rfl rfl ?_; rintro _ H49 ⟨rfl, X49⟩
              have W49 := X49.wf; have E49 := E1.trans X49
              have A1 := X49.keep _ _ A1
              have n49 := X49.n
              refine o_st W49 (by simp only [ev, envOf, val_set, ofValue, ofCell, ↓reduceIte, Nat.reduceEqDiff] <;> rfl) (by simp only [ev, envOf, val_set, ofValue, ofCell, ↓reduceIte, Nat.reduceEqDiff] <;> rfl) A1 Ty.csz24 rfl (Nat.le_of_ble_eq_true rfl) (by rfl) rfl rfl ?_; intro H50 n50 W50 A50 K50
              have A50 : H50.at H0.n = some (.row [.int .i64 (2), .int .i64 (flagN (decide (a < b))), .nils] 24 false none) := A50
              have E50 := Ext.put W0 E49 (by have := E49.n; omega) K50 n50 W50
              refine o_rd (r_assign (by simp only [ev, envOf, val_set, ofValue, ofCell, ↓reduceIte, Nat.reduceEqDiff] <;> rfl)) rfl rfl ?_
              refine o_nil ?_
              have hr51 : H50.read (.mt H0.n) 0 3 = some [.int .i64 (2), .int .i64 (flagN (decide (a < b))), .nils] := read_mt A50 (Nat.le_of_ble_eq_true rfl)
              refine w_ret ⟨.inr rfl, rfl, .tup [.agg [.int .i64 (2), .int .i64 (flagN (decide (a < b))), .nils], .int .i64 (0)], (show resultA Try.prog [.cell 6 24, .tmp 7] _ = _ by simp only [resultA, resultsA, envOf, val_set, ↓reduceIte, Nat.reduceEqDiff, Option.map_some, hr51, Ty.agg24, Ty.csz24] <;> rfl), ?_⟩
              exact ⟨by first | (simp [sumsS, outS, hc2, hc5, hc8, hc11, hc39, hc48]; done) | (exfalso; omega), E50⟩
            · have hc48 := dec_f hc48
              refine w_seq ?_
              refine w_region ?_
              refine o_rd (r_eq (a := op) (b := 24) (by simp only [ev, envOf, val_set, ofValue, ofCell, ↓reduceIte, Nat.reduceEqDiff] <;> rfl) (by simp only [ev, envOf, val_set, ofValue, ofCell, ↓reduceIte, Nat.reduceEqDiff] <;> rfl)) rfl rfl ?_
              refine o_rd (r_assign (by simp only [ev, envOf, val_set, ofValue, ofCell, ↓reduceIte, Nat.reduceEqDiff] <;> rfl)) rfl rfl ?_
              refine o_nil ?_
              refine w_cond (by simp only [ev, envOf, val_set, ofValue, ofCell, ↓reduceIte, Nat.reduceEqDiff] <;> rfl) (fun hc52 => ?_) (fun hc52 => ?_)
              · have hc52 := dec_t hc52
                refine w_seq ?_
                refine w_region ?_
                refine o_rd (r_move (by simp only [ev, envOf, val_set, ofValue, ofCell, ↓reduceIte, Nat.reduceEqDiff] <;> rfl)) rfl rfl ?_
                refine o_rd (r_move (by simp only [ev, envOf, val_set, ofValue, ofCell, ↓reduceIte, Nat.reduceEqDiff] <;> rfl)) rfl rfl ?_
                refine o_rd (r_le (a := a) (b := b) (by simp only [ev, envOf, val_set, ofValue, ofCell, ↓reduceIte, Nat.reduceEqDiff] <;> rfl) (by simp only [ev, envOf, val_set, ofValue, ofCell, ↓reduceIte, Nat.reduceEqDiff] <;> rfl)) rfl rfl ?_
                refine o_cl rfl rfl (by simp only [evs, ev, envOf, val_set, ofValue, ofCell, ↓reduceIte, Nat.reduceEqDiff] <;> rfl) rfl (flag_fin ho W1 (decide (a ≤ b))) rfl rfl ?_; rintro _ H53 ⟨rfl, X53⟩
                have W53 := X53.wf; have E53 := E1.trans X53
                have A1 := X53.keep _ _ A1
                have n53 := X53.n
                refine o_st W53 (by simp only [ev, envOf, val_set, ofValue, ofCell, ↓reduceIte, Nat.reduceEqDiff] <;> rfl) (by simp only [ev, envOf, val_set, ofValue, ofCell, ↓reduceIte, Nat.reduceEqDiff] <;> rfl) A1 Ty.csz24 rfl (Nat.le_of_ble_eq_true rfl) (by rfl) rfl rfl ?_; intro H54 n54 W54 A54 K54
                have A54 : H54.at H0.n = some (.row [.int .i64 (2), .int .i64 (flagN (decide (a ≤ b))), .nils] 24 false none) := A54
                have E54 := Ext.put W0 E53 (by have := E53.n; omega) K54 n54 W54
                refine o_rd (r_assign (by simp only [ev, envOf, val_set, ofValue, ofCell, ↓reduceIte, Nat.reduceEqDiff] <;> rfl)) rfl rfl ?_
                refine o_nil ?_
                have hr55 : H54.read (.mt H0.n) 0 3 = some [.int .i64 (2), .int .i64 (flagN (decide (a ≤ b))), .nils] := read_mt A54 (Nat.le_of_ble_eq_true rfl)
                refine w_ret ⟨.inr rfl, rfl, .tup [.agg [.int .i64 (2), .int .i64 (flagN (decide (a ≤ b))), .nils], .int .i64 (0)], (show resultA Try.prog [.cell 6 24, .tmp 7] _ = _ by simp only [resultA, resultsA, envOf, val_set, ↓reduceIte, Nat.reduceEqDiff, Option.map_some, hr55, Ty.agg24, Ty.csz24] <;> rfl), ?_⟩
                exact ⟨by first | (simp [sumsS, outS, hc2, hc5, hc8, hc11, hc39, hc48, hc52]; done) | (exfalso; omega), E54⟩
              · have hc52 := dec_f hc52
                refine w_seq ?_
                refine w_region ?_
                refine o_rd (r_eq (a := op) (b := 25) (by simp only [ev, envOf, val_set, ofValue, ofCell, ↓reduceIte, Nat.reduceEqDiff] <;> rfl) (by simp only [ev, envOf, val_set, ofValue, ofCell, ↓reduceIte, Nat.reduceEqDiff] <;> rfl)) rfl rfl ?_
                refine o_rd (r_assign (by simp only [ev, envOf, val_set, ofValue, ofCell, ↓reduceIte, Nat.reduceEqDiff] <;> rfl)) rfl rfl ?_
                refine o_nil ?_
                refine w_cond (by simp only [ev, envOf, val_set, ofValue, ofCell, ↓reduceIte, Nat.reduceEqDiff] <;> rfl) (fun hc56 => ?_) (fun hc56 => ?_)
                · have hc56 := dec_t hc56
                  refine w_seq ?_
                  refine w_region ?_
                  refine o_rd (r_move (by simp only [ev, envOf, val_set, ofValue, ofCell, ↓reduceIte, Nat.reduceEqDiff] <;> rfl)) rfl rfl ?_
                  refine o_rd (r_move (by simp only [ev, envOf, val_set, ofValue, ofCell, ↓reduceIte, Nat.reduceEqDiff] <;> rfl)) rfl rfl ?_
                  refine o_rd (r_gt (a := a) (b := b) (by simp only [ev, envOf, val_set, ofValue, ofCell, ↓reduceIte, Nat.reduceEqDiff] <;> rfl) (by simp only [ev, envOf, val_set, ofValue, ofCell, ↓reduceIte, Nat.reduceEqDiff] <;> rfl)) rfl rfl ?_
                  refine o_cl rfl rfl (by simp only [evs, ev, envOf, val_set, ofValue, ofCell, ↓reduceIte, Nat.reduceEqDiff] <;> rfl) rfl (flag_fin ho W1 (decide (b < a))) rfl rfl ?_; rintro _ H57 ⟨rfl, X57⟩
                  have W57 := X57.wf; have E57 := E1.trans X57
                  have A1 := X57.keep _ _ A1
                  have n57 := X57.n
                  refine o_st W57 (by simp only [ev, envOf, val_set, ofValue, ofCell, ↓reduceIte, Nat.reduceEqDiff] <;> rfl) (by simp only [ev, envOf, val_set, ofValue, ofCell, ↓reduceIte, Nat.reduceEqDiff] <;> rfl) A1 Ty.csz24 rfl (Nat.le_of_ble_eq_true rfl) (by rfl) rfl rfl ?_; intro H58 n58 W58 A58 K58
                  have A58 : H58.at H0.n = some (.row [.int .i64 (2), .int .i64 (flagN (decide (b < a))), .nils] 24 false none) := A58
                  have E58 := Ext.put W0 E57 (by have := E57.n; omega) K58 n58 W58
                  refine o_rd (r_assign (by simp only [ev, envOf, val_set, ofValue, ofCell, ↓reduceIte, Nat.reduceEqDiff] <;> rfl)) rfl rfl ?_
                  refine o_nil ?_
                  have hr59 : H58.read (.mt H0.n) 0 3 = some [.int .i64 (2), .int .i64 (flagN (decide (b < a))), .nils] := read_mt A58 (Nat.le_of_ble_eq_true rfl)
                  refine w_ret ⟨.inr rfl, rfl, .tup [.agg [.int .i64 (2), .int .i64 (flagN (decide (b < a))), .nils], .int .i64 (0)], (show resultA Try.prog [.cell 6 24, .tmp 7] _ = _ by simp only [resultA, resultsA, envOf, val_set, ↓reduceIte, Nat.reduceEqDiff, Option.map_some, hr59, Ty.agg24, Ty.csz24] <;> rfl), ?_⟩
                  exact ⟨by first | (simp [sumsS, outS, hc2, hc5, hc8, hc11, hc39, hc48, hc52, hc56]; done) | (exfalso; omega), E58⟩
                · have hc56 := dec_f hc56
                  refine w_seq ?_
                  refine w_region ?_
                  refine o_rd (r_eq (a := op) (b := 26) (by simp only [ev, envOf, val_set, ofValue, ofCell, ↓reduceIte, Nat.reduceEqDiff] <;> rfl) (by simp only [ev, envOf, val_set, ofValue, ofCell, ↓reduceIte, Nat.reduceEqDiff] <;> rfl)) rfl rfl ?_
                  refine o_rd (r_assign (by simp only [ev, envOf, val_set, ofValue, ofCell, ↓reduceIte, Nat.reduceEqDiff] <;> rfl)) rfl rfl ?_
                  refine o_nil ?_
                  refine w_cond (by simp only [ev, envOf, val_set, ofValue, ofCell, ↓reduceIte, Nat.reduceEqDiff] <;> rfl) (fun hc60 => ?_) (fun hc60 => ?_)
                  · have hc60 := dec_t hc60
                    refine w_seq ?_
                    refine w_region ?_
                    refine o_rd (r_move (by simp only [ev, envOf, val_set, ofValue, ofCell, ↓reduceIte, Nat.reduceEqDiff] <;> rfl)) rfl rfl ?_
                    refine o_rd (r_move (by simp only [ev, envOf, val_set, ofValue, ofCell, ↓reduceIte, Nat.reduceEqDiff] <;> rfl)) rfl rfl ?_
                    refine o_rd (r_ge (a := a) (b := b) (by simp only [ev, envOf, val_set, ofValue, ofCell, ↓reduceIte, Nat.reduceEqDiff] <;> rfl) (by simp only [ev, envOf, val_set, ofValue, ofCell, ↓reduceIte, Nat.reduceEqDiff] <;> rfl)) rfl rfl ?_
                    refine o_cl rfl rfl (by simp only [evs, ev, envOf, val_set, ofValue, ofCell, ↓reduceIte, Nat.reduceEqDiff] <;> rfl) rfl (flag_fin ho W1 (decide (b ≤ a))) rfl rfl ?_; rintro _ H61 ⟨rfl, X61⟩
                    have W61 := X61.wf; have E61 := E1.trans X61
                    have A1 := X61.keep _ _ A1
                    have n61 := X61.n
                    refine o_st W61 (by simp only [ev, envOf, val_set, ofValue, ofCell, ↓reduceIte, Nat.reduceEqDiff] <;> rfl) (by simp only [ev, envOf, val_set, ofValue, ofCell, ↓reduceIte, Nat.reduceEqDiff] <;> rfl) A1 Ty.csz24 rfl (Nat.le_of_ble_eq_true rfl) (by rfl) rfl rfl ?_; intro H62 n62 W62 A62 K62
                    have A62 : H62.at H0.n = some (.row [.int .i64 (2), .int .i64 (flagN (decide (b ≤ a))), .nils] 24 false none) := A62
                    have E62 := Ext.put W0 E61 (by have := E61.n; omega) K62 n62 W62
                    refine o_rd (r_assign (by simp only [ev, envOf, val_set, ofValue, ofCell, ↓reduceIte, Nat.reduceEqDiff] <;> rfl)) rfl rfl ?_
                    refine o_nil ?_
                    have hr63 : H62.read (.mt H0.n) 0 3 = some [.int .i64 (2), .int .i64 (flagN (decide (b ≤ a))), .nils] := read_mt A62 (Nat.le_of_ble_eq_true rfl)
                    refine w_ret ⟨.inr rfl, rfl, .tup [.agg [.int .i64 (2), .int .i64 (flagN (decide (b ≤ a))), .nils], .int .i64 (0)], (show resultA Try.prog [.cell 6 24, .tmp 7] _ = _ by simp only [resultA, resultsA, envOf, val_set, ↓reduceIte, Nat.reduceEqDiff, Option.map_some, hr63, Ty.agg24, Ty.csz24] <;> rfl), ?_⟩
                    exact ⟨by first | (simp [sumsS, outS, hc2, hc5, hc8, hc11, hc39, hc48, hc52, hc56, hc60]; done) | (exfalso; omega), E62⟩
                  · have hc60 := dec_f hc60
                    refine w_seq ?_
                    refine w_region ?_
                    refine o_rd (r_build (cs := [.int .i64 (0), .int .i64 (0), .nils]) Ty.zero24 Ty.pl24 (by simp only [evParts, ev, envOf, val_set, ofValue, ofCell, ↓reduceIte, Nat.reduceEqDiff] <;> rfl) rfl) rfl rfl ?_
                    refine o_st W1 (by simp only [ev, envOf, val_set, ofValue, ofCell, ↓reduceIte, Nat.reduceEqDiff] <;> rfl) (by simp only [ev, envOf, val_set, ofValue, ofCell, ↓reduceIte, Nat.reduceEqDiff] <;> rfl) A1 Ty.csz24 rfl (Nat.le_of_ble_eq_true rfl) (by rfl) rfl rfl ?_; intro H64 n64 W64 A64 K64
                    have A64 : H64.at H0.n = some (.row [.int .i64 (0), .int .i64 (0), .nils] 24 false none) := A64
                    have E64 := Ext.put W0 E1 (by have := E1.n; omega) K64 n64 W64
                    refine o_rd (r_assign (by simp only [ev, envOf, val_set, ofValue, ofCell, ↓reduceIte, Nat.reduceEqDiff] <;> rfl)) rfl rfl ?_
                    refine o_nil ?_
                    have hr65 : H64.read (.mt H0.n) 0 3 = some [.int .i64 (0), .int .i64 (0), .nils] := read_mt A64 (Nat.le_of_ble_eq_true rfl)
                    refine w_ret ⟨.inr rfl, rfl, .tup [.agg [.int .i64 (0), .int .i64 (0), .nils], .int .i64 (5)], (show resultA Try.prog [.cell 6 24, .tmp 7] _ = _ by simp only [resultA, resultsA, envOf, val_set, ↓reduceIte, Nat.reduceEqDiff, Option.map_some, hr65, Ty.agg24, Ty.csz24] <;> rfl), ?_⟩
                    exact ⟨by first | (simp [sumsS, outS, hc2, hc5, hc8, hc11, hc39, hc48, hc52, hc56, hc60]; done) | (exfalso; omega), E64⟩
end Go.Proofs.Ytenfjdkeikjhlaa.Vs
