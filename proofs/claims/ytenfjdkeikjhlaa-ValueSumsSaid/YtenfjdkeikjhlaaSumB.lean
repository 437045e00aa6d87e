/-
  What the operators make, with a name for the result.
-/
import Derived.Test.YtenfjdkeikjhlaaBinEx
import Derived.Test.YtenfjdkeikjhlaaShownEx
set_option autoImplicit false
set_option linter.unusedVariables false
set_option linter.unusedSimpArgs false
namespace Go.Proofs.Ytenfjdkeikjhlaa.PValueSums
open Go.RowKit Go.Proofs.YtenfjdkeikjhlaaW.PrintWords Go.Proofs.YtenfjdkeikjhlaaW.PrintLast Go.Proofs.YtenfjdkeikjhlaaW.PrintMore
theorem ren {Q : World → Prop} {W : World} (h : ∀ wn, wn = W → Q wn) : Q W := h W rfl

theorem binv_31 (x y r : Int) (h : wrap64 (x + y) = r) (w : World) : Calls Try.prog 23 #[.int .i64 31, .agg #[.int .i64 1, .int .i64 x, .slice none 0 0], .agg #[.int .i64 1, .int .i64 y, .slice none 0 0]] w fun e w' => e = .returned (.tuple #[.agg #[.int .i64 1, .int .i64 r, .slice none 0 0], .int .i64 0]) ∧ Below w.heap.size w w' := by subst h; exact bin_31 x y w

theorem binv_32 (x y r : Int) (h : wrap64 (x - y) = r) (w : World) : Calls Try.prog 23 #[.int .i64 32, .agg #[.int .i64 1, .int .i64 x, .slice none 0 0], .agg #[.int .i64 1, .int .i64 y, .slice none 0 0]] w fun e w' => e = .returned (.tuple #[.agg #[.int .i64 1, .int .i64 r, .slice none 0 0], .int .i64 0]) ∧ Below w.heap.size w w' := by subst h; exact bin_32 x y w

theorem binv_41 (x y r : Int) (h : wrap64 (x * y) = r) (w : World) : Calls Try.prog 23 #[.int .i64 41, .agg #[.int .i64 1, .int .i64 x, .slice none 0 0], .agg #[.int .i64 1, .int .i64 y, .slice none 0 0]] w fun e w' => e = .returned (.tuple #[.agg #[.int .i64 1, .int .i64 r, .slice none 0 0], .int .i64 0]) ∧ Below w.heap.size w w' := by subst h; exact bin_41 x y w

theorem binv_42 (x y r : Int) (hy : ¬ y = 0) (h : wrap64 (Int.tdiv x y) = r) (w : World) : Calls Try.prog 23 #[.int .i64 42, .agg #[.int .i64 1, .int .i64 x, .slice none 0 0], .agg #[.int .i64 1, .int .i64 y, .slice none 0 0]] w fun e w' => e = .returned (.tuple #[.agg #[.int .i64 1, .int .i64 r, .slice none 0 0], .int .i64 0]) ∧ Below w.heap.size w w' := by subst h; exact bin_42 x y hy w

theorem binv_43 (x y r : Int) (hy : ¬ y = 0) (h : Int.tmod x y = r) (w : World) : Calls Try.prog 23 #[.int .i64 43, .agg #[.int .i64 1, .int .i64 x, .slice none 0 0], .agg #[.int .i64 1, .int .i64 y, .slice none 0 0]] w fun e w' => e = .returned (.tuple #[.agg #[.int .i64 1, .int .i64 r, .slice none 0 0], .int .i64 0]) ∧ Below w.heap.size w w' := by subst h; exact bin_43 x y hy w

theorem binv_23 (x y r : Int) (h : flagN (decide (x < y)) = r) (w : World) : Calls Try.prog 23 #[.int .i64 23, .agg #[.int .i64 1, .int .i64 x, .slice none 0 0], .agg #[.int .i64 1, .int .i64 y, .slice none 0 0]] w fun e w' => e = .returned (.tuple #[.agg #[.int .i64 2, .int .i64 r, .slice none 0 0], .int .i64 0]) ∧ Below w.heap.size w w' := by subst h; exact bin_23 x y w

theorem binv_25 (x y r : Int) (h : flagN (decide (x > y)) = r) (w : World) : Calls Try.prog 23 #[.int .i64 25, .agg #[.int .i64 1, .int .i64 x, .slice none 0 0], .agg #[.int .i64 1, .int .i64 y, .slice none 0 0]] w fun e w' => e = .returned (.tuple #[.agg #[.int .i64 2, .int .i64 r, .slice none 0 0], .int .i64 0]) ∧ Below w.heap.size w w' := by subst h; exact bin_25 x y w

theorem binv_21 (x y r : Int) (h : flagN (x == y) = r) (w : World) : Calls Try.prog 23 #[.int .i64 21, .agg #[.int .i64 1, .int .i64 x, .slice none 0 0], .agg #[.int .i64 1, .int .i64 y, .slice none 0 0]] w fun e w' => e = .returned (.tuple #[.agg #[.int .i64 2, .int .i64 r, .slice none 0 0], .int .i64 0]) ∧ Below w.heap.size w w' := by subst h; exact bin_21 x y w

theorem unv_1 (x r : Int) (h : wrap64 (-x) = r) (w : World) : Calls Try.prog 24 #[.int .i64 1, .agg #[.int .i64 1, .int .i64 x, .slice none 0 0]] w fun e w' => e = .returned (.tuple #[.agg #[.int .i64 1, .int .i64 r, .slice none 0 0], .int .i64 0]) ∧ Below w.heap.size w w' := by subst h; exact un_1 x w

theorem unv_2 (x r : Int) (h : flagN (x == 0) = r) (w : World) : Calls Try.prog 24 #[.int .i64 2, .agg #[.int .i64 2, .int .i64 x, .slice none 0 0]] w fun e w' => e = .returned (.tuple #[.agg #[.int .i64 2, .int .i64 r, .slice none 0 0], .int .i64 0]) ∧ Below w.heap.size w w' := by subst h; exact un_2 x w

end Go.Proofs.Ytenfjdkeikjhlaa.PValueSums
