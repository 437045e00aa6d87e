/-
  ValueSums: what is wanted of numbers, and the walk.
-/
import Derived.Test.YtenfjdkeikjhlaaSumZ
import Derived.Test.YtenfjdkeikjhlaaSumN
set_option autoImplicit false
set_option linter.unusedVariables false
set_option linter.unusedSimpArgs false
namespace Go.Proofs.Ytenfjdkeikjhlaa.PValueSums
open Go.RowKit Go.Proofs.YtenfjdkeikjhlaaW.PrintWords Go.Proofs.YtenfjdkeikjhlaaW.PrintLast Go.Proofs.YtenfjdkeikjhlaaW.PrintMore
theorem back (x y : Int) (hx : -9223372036854775808 ≤ x ∧ x ≤ 9223372036854775807) : wrap64 (wrap64 (wrap64 (Int.tdiv x y) * y) + Int.tmod x y) = x := by
  have h := Int.tmod_add_mul_tdiv x y
  generalize Int.tmod x y = r at h ⊢
  generalize Int.tdiv x y = t at h ⊢
  obtain ⟨k, hk⟩ : ∃ k, wrap64 t = t - k * 18446744073709551616 := ⟨(t + 9223372036854775808) / 18446744073709551616, by unfold wrap64; omega⟩
  have e : wrap64 t * y = y * t - (k * y) * 18446744073709551616 := by rw [hk, Int.sub_mul, Int.mul_comm t y, Int.mul_right_comm]
  rw [e]
  generalize k * y = v
  generalize y * t = u at h ⊢
  unfold wrap64
  omega
theorem sign (x y : Int) : (Int.tmod x y == 0) = true ∨ ((Int.tmod x y == 0) = false ∧ (decide (Int.tmod x y < 0) == decide (x < 0)) = true) := by
  by_cases h0 : Int.tmod x y = 0
  · exact .inl (beq_iff_eq.mpr h0)
  · refine .inr ⟨beq_eq_false_iff_ne.mpr h0, beq_iff_eq.mpr (decide_eq_decide.mpr ?_)⟩
    by_cases hx : 0 ≤ x
    · have := Int.tmod_nonneg y hx
      omega
    · have h1 := Int.tmod_nonneg y (a := -x) (by omega)
      rw [Int.neg_tmod] at h1
      omega
theorem one (x y : Int) : wrap64 (wrap64 (flagN (decide (x < y)) + flagN (decide (x > y))) + flagN (x == y)) = 1 := by
  unfold flagN
  rcases Int.lt_trichotomy x y with h | h | h
  · have a : decide (x < y) = true := decide_eq_true h
    have b : decide (x > y) = false := decide_eq_false (by omega)
    have c : (x == y) = false := beq_eq_false_iff_ne.mpr (by omega)
    rw [a, b, c]; show wrap64 (wrap64 ((1 : Int) + 0) + 0) = 1; unfold wrap64; omega
  · have a : decide (x < y) = false := decide_eq_false (by omega)
    have b : decide (x > y) = false := decide_eq_false (by omega)
    have c : (x == y) = true := beq_iff_eq.mpr h
    rw [a, b, c]; show wrap64 (wrap64 ((0 : Int) + 0) + 1) = 1; unfold wrap64; omega
  · have a : decide (x < y) = false := decide_eq_false (by omega)
    have b : decide (x > y) = true := decide_eq_true h
    have c : (x == y) = false := beq_eq_false_iff_ne.mpr (by omega)
    rw [a, b, c]; show wrap64 (wrap64 ((0 : Int) + 1) + 0) = 1; unfold wrap64; omega
def inR (x : Int) : Bool := decide (-9223372036854775808 ≤ x) && decide (x ≤ 9223372036854775807)
def squintlaw07_ValueSums.f (x y : Int) : Option Bool := if (inR x && inR y) = true then some true else none
theorem squintlaw07_ValueSums.calls (x y : Int) (r : Bool) (w : World) (h : squintlaw07_ValueSums.f x y = some r) :
    Calls Try.prog 6 #[.int .i64 x, .int .i64 y] w fun e w' => e = .returned (.bool r) ∧ Below w.heap.size w w' := by
  unfold squintlaw07_ValueSums.f at h
  split at h
  case isFalse => cases h
  case isTrue hr =>
    obtain rfl := Option.some.inj h
    simp only [inR, Bool.and_eq_true, decide_eq_true_eq] at hr
    obtain ⟨⟨x0, x1⟩, y0, y1⟩ := hr
    have c1 : ((wrap64 (wrap64 (x + y) - y)) != x) = false := bne_eq_false_iff_eq.mpr (by unfold wrap64; omega)
    have c2 : ((wrap64 (wrap64 (x + y) + wrap64 (-y))) != x) = false := bne_eq_false_iff_eq.mpr (by unfold wrap64; omega)
    have c3 : (wrap64 (wrap64 (flagN (decide (x < y)) + flagN (decide (x > y))) + flagN (x == y)) != 1) = false := bne_eq_false_iff_eq.mpr (one x y)
    have c4 : (flagN (x == y) == flagN (flagN (x == y) == 0)) = false := by cases (x == y) <;> decide
    have c5 : ((flagN (x == y) == 1) == (x == y)) = true := by cases (x == y) <;> decide
    by_cases hy : y = 0
    · subst hy
      exact main_z x _ _ _ _ _ _ _ _ w rfl rfl rfl rfl rfl rfl rfl rfl c1 c2 c3 c4 c5
    · exact main_nz x y _ _ _ _ _ _ _ _ _ _ _ _ w hy rfl rfl rfl rfl rfl rfl rfl rfl c1 c2 c3 c4 c5 rfl rfl rfl rfl (beq_eq_false_iff_ne.mpr hy) (beq_iff_eq.mpr (back x y ⟨x0, x1⟩)) (sign x y)

end Go.Proofs.Ytenfjdkeikjhlaa.PValueSums
