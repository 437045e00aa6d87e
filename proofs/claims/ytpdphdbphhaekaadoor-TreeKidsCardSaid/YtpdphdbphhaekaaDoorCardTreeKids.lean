/-
  The card of TreeKids: the row, and its tie.
-/
import Derived.Test.YtpdphdbphhaekaaDoorLawTreeKids
import Derived.Test.YtpdphdbphhaekaaDoorCards
import Derived.Test.YtpdphdbphhaekaaDoorTie
import Derived.SevenTiedAt
set_option autoImplicit false
namespace Go.Proofs.YtpdphdbphhaekaaDoor
open Go
theorem treeKidsCard_holds : Rows.TreeKidsCardSaid :=
  Claim7.holds_tied_plain_at .later [] [.data, .data, .data] true (true, "b226ba65cc5be55e2a9578d34fcf0e6356570ad3d48ad8114bc0361e6067ba6a") false
    treeKids_holds (fun _ h => by cases h) (by kernel_rfl) (fun _ h => by cases h) treeKids_row_tie rfl ⟨rfl, rfl⟩ (by kernel_rfl) rfl
    (fun f fn hf hfn => by
      obtain rfl : f = 5 := Option.some.inj ((show Tryd.prog.funcNamed "squint/squintlaw02.TreeKids" = some 5 by kernel_rfl).symm.trans hf) |>.symm
      obtain rfl : fn = Tryd.f5 := (Option.some.inj (Tryd.func5.symm.trans hfn)).symm
      exact ⟨by kernel_rfl, fun j t ht => by
        rw [Tryd.params5] at ht
        have hm : t ∈ [28] := by simpa using Array.mem_of_getElem? ht
        have hall : ([28].all fun u => !Tryd.prog.wantsStandIn u) = true := by kernel_rfl
        exact (show Tryd.prog.wantsStandIn t = false by simpa using List.all_eq_true.1 hall t hm)⟩)
    (by kernel_rfl)
#print axioms treeKidsCard_holds
end Go.Proofs.YtpdphdbphhaekaaDoor
