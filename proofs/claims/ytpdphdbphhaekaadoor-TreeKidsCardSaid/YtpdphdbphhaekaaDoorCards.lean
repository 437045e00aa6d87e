/-
  DERIVED. GIVEN WITH THE SEED: THE CARDS: each row of YtpdphdbphhaekaaDoorRows.lean that lists a variable, with what it lists TIED to the program's text (the seventh form; the later family's looks); each row that meets fmt, with fmt's text TOLD by the authors' own Lean function (tested against real Go, not proved from fmt's source: count such statements apart). THE CARD IS WHAT COUNTS. Prove the row's statement (the work); the ties are given (YtpdphdbphhaekaaDoorTie.lean); close each card by the builder's one call (the guide's Derived/Test/ToyasCard.lean, 'card_holds'). Laid BY PROGRAM, IN A SANDBOX (cutbox-door.mjs). By AI agents, Wed Nov 11 2026. No macro, syntax, notation, axiom, sorry.
-/
import Derived.Test.YtpdphdbphhaekaaDoorRows
import GoSem.ClaimSeven
namespace Go.Proofs.YtpdphdbphhaekaaDoor
namespace Rows

/-- THE TIED CARD OF 'squintlaw02.TreeLevels'. -/
def treeLevelsCard : Claim7 := { stood := { row := treeLevelsRow, standIns := [], harness := (true, "b226ba65cc5be55e2a9578d34fcf0e6356570ad3d48ad8114bc0361e6067ba6a"), looks := false }, kinds := [], alts := [], laidByText := true, laidKinds := [.data, .data, .data], laidTests := true, laidLooks := .later }
def TreeLevelsCardSaid : Prop := Claim7.holds Tryd.pinned (.plain (OpenSpec.ofChange treeLevelsSpec)) treeLevelsCard

/-- THE TIED CARD OF 'squintlaw02.TreeUnlike'. -/
def treeUnlikeCard : Claim7 := { stood := { row := treeUnlikeRow, standIns := [], harness := (true, "b226ba65cc5be55e2a9578d34fcf0e6356570ad3d48ad8114bc0361e6067ba6a"), looks := false }, kinds := [], alts := [], laidByText := true, laidKinds := [.data, .data, .data], laidTests := true, laidLooks := .later }
def TreeUnlikeCardSaid : Prop := Claim7.holds Tryd.pinned (.plain (OpenSpec.ofChange treeUnlikeSpec)) treeUnlikeCard

/-- THE TIED CARD OF 'squintlaw02.TreeKids'. -/
def treeKidsCard : Claim7 := { stood := { row := treeKidsRow, standIns := [], harness := (true, "b226ba65cc5be55e2a9578d34fcf0e6356570ad3d48ad8114bc0361e6067ba6a"), looks := false }, kinds := [], alts := [], laidByText := true, laidKinds := [.data, .data, .data], laidTests := true, laidLooks := .later }
def TreeKidsCardSaid : Prop := Claim7.holds Tryd.pinned (.plain (OpenSpec.ofChange treeKidsSpec)) treeKidsCard

/-- THE TIED CARD OF 'squintlaw02.TreeNames'. -/
def treeNamesCard : Claim7 := { stood := { row := treeNamesRow, standIns := [], harness := (true, "b226ba65cc5be55e2a9578d34fcf0e6356570ad3d48ad8114bc0361e6067ba6a"), looks := false }, kinds := [], alts := [], laidByText := true, laidKinds := [.data, .data, .data], laidTests := true, laidLooks := .later }
def TreeNamesCardSaid : Prop := Claim7.holds Tryd.pinned (.plain (OpenSpec.ofChange treeNamesSpec)) treeNamesCard

/-- THE TIED CARD OF 'squintlaw02.TreeScans'. -/
def treeScansCard : Claim7 := { stood := { row := treeScansRow, standIns := [], harness := (true, "b226ba65cc5be55e2a9578d34fcf0e6356570ad3d48ad8114bc0361e6067ba6a"), looks := false }, kinds := [], alts := [], laidByText := true, laidKinds := [.data, .data, .data], laidTests := true, laidLooks := .later }
def TreeScansCardSaid : Prop := Claim7.holds Tryd.pinned (.plain (OpenSpec.ofChange treeScansSpec)) treeScansCard

/-- THE SECOND FORM's CARD OF 'squintlaw02.TreeLevels'. -/
def treeLevelsUptoCard : Claim7 := { stood := { row := treeLevelsUptoRow, standIns := [], harness := (true, "b226ba65cc5be55e2a9578d34fcf0e6356570ad3d48ad8114bc0361e6067ba6a"), looks := false }, kinds := [], alts := [], laidByText := true, laidKinds := [.data, .data, .data], laidTests := true, laidLooks := .later }
def TreeLevelsUptoCardSaid : Prop := Claim7.holds Tryd.pinned (.plain (OpenSpec.upto treeLevelsSpec)) treeLevelsUptoCard

/-- THE SECOND FORM's CARD OF 'squintlaw02.TreeUnlike'. -/
def treeUnlikeUptoCard : Claim7 := { stood := { row := treeUnlikeUptoRow, standIns := [], harness := (true, "b226ba65cc5be55e2a9578d34fcf0e6356570ad3d48ad8114bc0361e6067ba6a"), looks := false }, kinds := [], alts := [], laidByText := true, laidKinds := [.data, .data, .data], laidTests := true, laidLooks := .later }
def TreeUnlikeUptoCardSaid : Prop := Claim7.holds Tryd.pinned (.plain (OpenSpec.upto treeUnlikeSpec)) treeUnlikeUptoCard

/-- THE SECOND FORM's CARD OF 'squintlaw02.TreeKids'. -/
def treeKidsUptoCard : Claim7 := { stood := { row := treeKidsUptoRow, standIns := [], harness := (true, "b226ba65cc5be55e2a9578d34fcf0e6356570ad3d48ad8114bc0361e6067ba6a"), looks := false }, kinds := [], alts := [], laidByText := true, laidKinds := [.data, .data, .data], laidTests := true, laidLooks := .later }
def TreeKidsUptoCardSaid : Prop := Claim7.holds Tryd.pinned (.plain (OpenSpec.upto treeKidsSpec)) treeKidsUptoCard

/-- THE SECOND FORM's CARD OF 'squintlaw02.TreeNames'. -/
def treeNamesUptoCard : Claim7 := { stood := { row := treeNamesUptoRow, standIns := [], harness := (true, "b226ba65cc5be55e2a9578d34fcf0e6356570ad3d48ad8114bc0361e6067ba6a"), looks := false }, kinds := [], alts := [], laidByText := true, laidKinds := [.data, .data, .data], laidTests := true, laidLooks := .later }
def TreeNamesUptoCardSaid : Prop := Claim7.holds Tryd.pinned (.plain (OpenSpec.upto treeNamesSpec)) treeNamesUptoCard

/-- THE SECOND FORM's CARD OF 'squintlaw02.TreeScans'. -/
def treeScansUptoCard : Claim7 := { stood := { row := treeScansUptoRow, standIns := [], harness := (true, "b226ba65cc5be55e2a9578d34fcf0e6356570ad3d48ad8114bc0361e6067ba6a"), looks := false }, kinds := [], alts := [], laidByText := true, laidKinds := [.data, .data, .data], laidTests := true, laidLooks := .later }
def TreeScansUptoCardSaid : Prop := Claim7.holds Tryd.pinned (.plain (OpenSpec.upto treeScansSpec)) treeScansUptoCard
end Rows
end Go.Proofs.YtpdphdbphhaekaaDoor
