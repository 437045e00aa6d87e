/-
  The card of TreeNames: the row, and its tie.
-/
import Derived.Test.YtpdphdbphhaekaaDoorNum
import Derived.Test.YtpdphdbphhaekaaDoorCards
import Derived.Test.YtpdphdbphhaekaaDoorTie
import Derived.SevenTiedAt
set_option autoImplicit false
namespace Go.Proofs.YtpdphdbphhaekaaDoor
open Go
theorem treeNamesCard_holds : Rows.TreeNamesCardSaid :=
  Claim7.holds_tied_plain_at .later [] [.data, .data, .data] true (true, "b226ba65cc5be55e2a9578d34fcf0e6356570ad3d48ad8114bc0361e6067ba6a") false
    treeNames_holds (fun _ h => by cases h) (by kernel_rfl) (fun _ h => by cases h) treeNames_row_tie rfl ⟨rfl, rfl⟩ (by kernel_rfl) rfl
    (fun f fn hf hfn => by
      obtain rfl : f = 6 := Option.some.inj ((show Tryd.prog.funcNamed "squint/squintlaw02.TreeNames" = some 6 by kernel_rfl).symm.trans hf) |>.symm
      obtain rfl : fn = Tryd.f6 := (Option.some.inj (Tryd.func6.symm.trans hfn)).symm
      exact ⟨by kernel_rfl, fun j t ht => by
        rw [Tryd.params6] at ht
        simp at ht⟩)
    (by kernel_rfl)
#print axioms treeNamesCard_holds
end Go.Proofs.YtpdphdbphhaekaaDoor
