/-
  The examples: the abstract machine goes through them once; a table keeps the answer.
-/
import Derived.Test.YtenfjdkeikjhlaaTa
import Derived.Test.YtenfjdkeikjhlaaVj
set_option autoImplicit false
namespace Go.Proofs.Ytenfjdkeikjhlaa.Vs
open Go.VI Go.Proofs
def tabShown : List Row := [⟨9, [], .bool true⟩]
theorem shownOk : TableOk Try.prog tabShown := table_of mixed namesOk (fun _ => noOrc_sound) (n := 200) (by kernel_rfl)
theorem butShown : NoOrcBut [9] (table tabShown) := by
  intro f hf a H
  have h9 : ¬ f = 9 := by intro h; subst h; simp at hf
  have h9 : Nat.beq 9 f = false := by rw [beq_iff]; exact decide_eq_false (fun h => h9 h.symm)
  simp only [table, tabShown, lookT, h9, Bool.false_and]
theorem butShown3 : NoOrcBut [9, 35, 36] (table tabShown) := fun f hf a H => butShown f (by
  simp only [List.contains_cons, List.contains_nil, Bool.or_false, Bool.or_eq_false_iff] at hf ⊢
  exact hf.1) a H
end Go.Proofs.Ytenfjdkeikjhlaa.Vs
