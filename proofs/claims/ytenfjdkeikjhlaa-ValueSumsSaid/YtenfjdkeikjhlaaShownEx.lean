/-
  The examples: the abstract machine goes through them once.
-/
import Derived.Test.YtenfjdkeikjhlaaPValueSumsx0
import Derived.Test.YtenfjdkeikjhlaaTa
set_option autoImplicit false
set_option linter.unusedVariables false
set_option linter.unusedSimpArgs false
namespace Go.Proofs.Ytenfjdkeikjhlaa.PValueSums
open Go.RowKit Go.Proofs.YtenfjdkeikjhlaaW.PrintWords Go.Proofs.YtenfjdkeikjhlaaW.PrintLast Go.Proofs.YtenfjdkeikjhlaaW.PrintMore
theorem shownTells : Go.VI.tells (Go.VI.acall Try.prog (Go.VI.table tabKinds) 200 9 [] Go.VI.AH.empty) = true := by kernel_rfl
def squintlaw07_shown.f : Option (Bool) := some true
theorem squintlaw07_shown.calls (r : Bool) (w : World) (h : squintlaw07_shown.f = some r) :
    Calls Try.prog 9 #[] w fun e w' => e = .returned (.bool r) ∧ Below w.heap.size w w' := by
  obtain rfl := Option.some.inj h
  exact Go.VI.law0 mixed namesOk kindsOk shownTells w

end Go.Proofs.Ytenfjdkeikjhlaa.PValueSums
