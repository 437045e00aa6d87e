/-
  ValueSums in plain words.
-/
import Derived.Test.YtenfjdkeikjhlaaPValueSumsx1
set_option autoImplicit false
set_option linter.unusedVariables false
set_option linter.unusedSimpArgs false
namespace Go.Proofs.Ytenfjdkeikjhlaa.PValueSums
open Go.RowKit Go.Proofs.YtenfjdkeikjhlaaW.PrintWords Go.Proofs.YtenfjdkeikjhlaaW.PrintLast Go.Proofs.YtenfjdkeikjhlaaW.PrintMore
theorem law (x y : Int) (hx : (Lit.int .i64 x).wf = true) (hy : (Lit.int .i64 y).wf = true) : ∃ k : Nat, squintlaw07_ValueSums.f x y = some true := by
  have hx' : -9223372036854775808 ≤ x ∧ x ≤ 9223372036854775807 := by simpa [Lit.wf, IntKind.min, IntKind.max, IntKind.signed, IntKind.bits] using hx
  have hy' : -9223372036854775808 ≤ y ∧ y ≤ 9223372036854775807 := by simpa [Lit.wf, IntKind.min, IntKind.max, IntKind.signed, IntKind.bits] using hy
  refine ⟨0, ?_⟩
  unfold squintlaw07_ValueSums.f inR
  rw [if_pos (by simp [hx', hy'])]

end Go.Proofs.Ytenfjdkeikjhlaa.PValueSums
