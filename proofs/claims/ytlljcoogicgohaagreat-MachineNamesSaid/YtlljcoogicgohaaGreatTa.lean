/-
  The program's own facts that the abstract machine asks for.
-/
import Derived.Test.YtlljcoogicgohaaGreatChecked
import Derived.Test.YtlljcoogicgohaaGreatVi2
import Derived.KernelRfl
set_option autoImplicit false
namespace Go.Proofs.YtlljcoogicgohaaGreat
open Go.VI

theorem mixed : Tryz.prog.follows .mixedOrders = true := by kernel_rfl
theorem namesAll : (Tryz.prog.funcs.toList.all fun fn => !(fn.name == "runtime.NumGoroutine")) = true := by kernel_rfl
theorem namesOk : NamesOk Tryz.prog := by
  intro f fn h
  have h1 : fn ∈ Tryz.prog.funcs.toList := by
    rw [← Array.getElem?_toList] at h
    exact List.mem_of_getElem? h
  have := List.all_eq_true.1 namesAll fn h1
  simpa using this
def tabKinds : List Row := []
theorem kindsOk : TableOk Tryz.prog tabKinds := TableOk.nil
end Go.Proofs.YtlljcoogicgohaaGreat
