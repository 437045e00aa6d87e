/-
  The program's own facts that the abstract machine asks for.
-/
import Derived.Test.YtehmhhlhlipbnaaChecked
import Derived.Test.YtehmhhlhlipbnaaVi2
import Derived.KernelRfl
set_option autoImplicit false
namespace Go.Proofs.Ytehmhhlhlipbnaa
open Go.VI

theorem mixed : Try.prog.follows .mixedOrders = true := by kernel_rfl
theorem namesAll : (Try.prog.funcs.toList.all fun fn => !(fn.name == "runtime.NumGoroutine")) = true := by kernel_rfl
theorem namesOk : NamesOk Try.prog := by
  intro f fn h
  have h1 : fn ∈ Try.prog.funcs.toList := by
    rw [← Array.getElem?_toList] at h
    exact List.mem_of_getElem? h
  have := List.all_eq_true.1 namesAll fn h1
  simpa using this
end Go.Proofs.Ytehmhhlhlipbnaa
