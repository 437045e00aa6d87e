/-
  The program's own facts that the abstract machine asks for.
-/
import Derived.Test.YtpdphdbphhaekaaDoorChecked
import Derived.Test.YtpdphdbphhaekaaDoorVi2
import Derived.KernelRfl
set_option autoImplicit false
namespace Go.Proofs.YtpdphdbphhaekaaDoor
open Go.VI

theorem mixed : Tryd.prog.follows .mixedOrders = true := by kernel_rfl
theorem namesAll : (Tryd.prog.funcs.toList.all fun fn => !(fn.name == "runtime.NumGoroutine")) = true := by kernel_rfl
theorem namesOk : NamesOk Tryd.prog := by
  intro f fn h
  have h1 : fn ∈ Tryd.prog.funcs.toList := by
    rw [← Array.getElem?_toList] at h
    exact List.mem_of_getElem? h
  have := List.all_eq_true.1 namesAll fn h1
  simpa using this
def tabKinds : List Row := []
theorem kindsOk : TableOk Tryd.prog tabKinds := TableOk.nil
end Go.Proofs.YtpdphdbphhaekaaDoor
