/-
  No cell of these rows narrows 'for every input' (looked for: loops, veiled, ifaces, maps, wideKeys, modest, calm, conditions, laid).
  DERIVED. THE GIVEN ROWS OF THIS SEAT. 6 by the template 'for every input the law returns true; each argument reads behind the call as it read before'; 0 by the template 'total and deterministic' (their statements: YtapagakfckjhdaaTotals.lean).
  GIVEN WITH THE SEED: the statements are not yours to turn. If you find one false, say at which input.
  Laid BY PROGRAM, IN A SANDBOX (cutbox-rows.mjs): the forced cells as the released guide's own fill.sh prints them over the translation a67f5d15e10ac6af… (all of the seat's roots in one cut). By AI agents, Wed Nov 11 2026. No macro, syntax, notation, axiom, sorry.
-/
import Derived.Test.YtapagakfckjhdaaChecked
import GoSem.Claim
import GoSem.ClaimJoined
import GoSem.ClaimMapViews
import Derived.JoinedTies
import Derived.KernelRfl
namespace Go.Proofs.Ytapagakfckjhdaa
/- THE CELL 'sum', in the pinned program and in every row, IS THE sha256 OF THE DUMP (.gsa) THAT YtapagakfckjhdaaProg.lean LOADS. Nothing in Lean hashes anything: it is a label: what it is worth is what the hold of that sum in a sandbox is worth. -/
noncomputable def Try.pinned : Pinned := { name := "ytapagakfckjhdaa", sum := "a67f5d15e10ac6afc7d562b32ef36cf127ec45ccbd0c22a376caff677ca359f4", checked := Try.checked }
namespace Rows
def none {H : Type} : Left H := { results := [], args := [] }

/-- 'squintlaw04.KindsTables': WHATEVER THE INPUT: true; the input reads as it did. -/
def kindsTablesSpec : ChangeSpec := { name := "kindsTables", fn := fun _ => fun
  | [d1, d2] => { results := [.lit (.bool true)], args := [d1, d2] }
  | _ => none }
def kindsTablesRow : OpenClaim := { program := "ytapagakfckjhdaa", sum := "a67f5d15e10ac6afc7d562b32ef36cf127ec45ccbd0c22a376caff677ca359f4", func := "squint/squintlaw04.KindsTables", spec := "kindsTables", recurses := true, plainKeys := false, apart := false }
def KindsTablesSaid : Prop := kindsTablesRow.holds Try.pinned (OpenSpec.ofChange kindsTablesSpec)

/-- ITS FALSE NEIGHBOUR: 'it returns false'. Refute it at one input. -/
def kindsTablesWrong : ChangeSpec := { name := "kindsTables", fn := fun _ => fun
  | [d1, d2] => { results := [.lit (.bool false)], args := [d1, d2] }
  | _ => none }
def KindsTablesWrongFalsely : Prop := kindsTablesRow.holds Try.pinned (OpenSpec.ofChange kindsTablesWrong)

/-- 'squintlaw04.KindsValid': WHATEVER THE INPUT: true; the input reads as it did. -/
def kindsValidSpec : ChangeSpec := { name := "kindsValid", fn := fun _ => fun
  | [d] => { results := [.lit (.bool true)], args := [d] }
  | _ => none }
def kindsValidRow : OpenClaim := { program := "ytapagakfckjhdaa", sum := "a67f5d15e10ac6afc7d562b32ef36cf127ec45ccbd0c22a376caff677ca359f4", func := "squint/squintlaw04.KindsValid", spec := "kindsValid", recurses := true, plainKeys := false, apart := false }
def KindsValidSaid : Prop := kindsValidRow.holds Try.pinned (OpenSpec.ofChange kindsValidSpec)

/-- ITS FALSE NEIGHBOUR: 'it returns false'. Refute it at one input. -/
def kindsValidWrong : ChangeSpec := { name := "kindsValid", fn := fun _ => fun
  | [d] => { results := [.lit (.bool false)], args := [d] }
  | _ => none }
def KindsValidWrongFalsely : Prop := kindsValidRow.holds Try.pinned (OpenSpec.ofChange kindsValidWrong)

/-- 'squintlaw04.KindsSame': WHATEVER THE INPUT: true; the input reads as it did. -/
def kindsSameSpec : ChangeSpec := { name := "kindsSame", fn := fun _ => fun
  | [d1, d2, d3] => { results := [.lit (.bool true)], args := [d1, d2, d3] }
  | _ => none }
def kindsSameRow : OpenClaim := { program := "ytapagakfckjhdaa", sum := "a67f5d15e10ac6afc7d562b32ef36cf127ec45ccbd0c22a376caff677ca359f4", func := "squint/squintlaw04.KindsSame", spec := "kindsSame", recurses := true, plainKeys := false, apart := false }
def KindsSameSaid : Prop := kindsSameRow.holds Try.pinned (OpenSpec.ofChange kindsSameSpec)

/-- ITS FALSE NEIGHBOUR: 'it returns false'. Refute it at one input. -/
def kindsSameWrong : ChangeSpec := { name := "kindsSame", fn := fun _ => fun
  | [d1, d2, d3] => { results := [.lit (.bool false)], args := [d1, d2, d3] }
  | _ => none }
def KindsSameWrongFalsely : Prop := kindsSameRow.holds Try.pinned (OpenSpec.ofChange kindsSameWrong)

/-- 'squintlaw04.KindsLaws': WHATEVER THE INPUT: true; the input reads as it did. -/
def kindsLawsSpec : ChangeSpec := { name := "kindsLaws", fn := fun _ => fun
  | [d1, d2, d3, d4] => { results := [.lit (.bool true)], args := [d1, d2, d3, d4] }
  | _ => none }
def kindsLawsRow : OpenClaim := { program := "ytapagakfckjhdaa", sum := "a67f5d15e10ac6afc7d562b32ef36cf127ec45ccbd0c22a376caff677ca359f4", func := "squint/squintlaw04.KindsLaws", spec := "kindsLaws", recurses := true, plainKeys := false, apart := false }
def KindsLawsSaid : Prop := kindsLawsRow.holds Try.pinned (OpenSpec.ofChange kindsLawsSpec)

/-- ITS FALSE NEIGHBOUR: 'it returns false'. Refute it at one input. -/
def kindsLawsWrong : ChangeSpec := { name := "kindsLaws", fn := fun _ => fun
  | [d1, d2, d3, d4] => { results := [.lit (.bool false)], args := [d1, d2, d3, d4] }
  | _ => none }
def KindsLawsWrongFalsely : Prop := kindsLawsRow.holds Try.pinned (OpenSpec.ofChange kindsLawsWrong)

/-- 'squintlaw04.KindsWays': WHATEVER THE INPUT: true; the input reads as it did. -/
def kindsWaysSpec : ChangeSpec := { name := "kindsWays", fn := fun _ => fun
  | [d1, d2, d3, d4] => { results := [.lit (.bool true)], args := [d1, d2, d3, d4] }
  | _ => none }
def kindsWaysRow : OpenClaim := { program := "ytapagakfckjhdaa", sum := "a67f5d15e10ac6afc7d562b32ef36cf127ec45ccbd0c22a376caff677ca359f4", func := "squint/squintlaw04.KindsWays", spec := "kindsWays", recurses := true, plainKeys := false, apart := false }
def KindsWaysSaid : Prop := kindsWaysRow.holds Try.pinned (OpenSpec.ofChange kindsWaysSpec)

/-- ITS FALSE NEIGHBOUR: 'it returns false'. Refute it at one input. -/
def kindsWaysWrong : ChangeSpec := { name := "kindsWays", fn := fun _ => fun
  | [d1, d2, d3, d4] => { results := [.lit (.bool false)], args := [d1, d2, d3, d4] }
  | _ => none }
def KindsWaysWrongFalsely : Prop := kindsWaysRow.holds Try.pinned (OpenSpec.ofChange kindsWaysWrong)

/-- 'squintlaw04.KindsNumbers': WHATEVER THE INPUT: true; the input reads as it did. -/
def kindsNumbersSpec : ChangeSpec := { name := "kindsNumbers", fn := fun _ => fun
  | [] => { results := [.lit (.bool true)], args := [] }
  | _ => none }
def kindsNumbersRow : OpenClaim := { program := "ytapagakfckjhdaa", sum := "a67f5d15e10ac6afc7d562b32ef36cf127ec45ccbd0c22a376caff677ca359f4", func := "squint/squintlaw04.KindsNumbers", spec := "kindsNumbers", recurses := true, plainKeys := false, apart := false }
def KindsNumbersSaid : Prop := kindsNumbersRow.holds Try.pinned (OpenSpec.ofChange kindsNumbersSpec)

/-- ITS FALSE NEIGHBOUR: 'it returns false'. Refute it at one input. -/
def kindsNumbersWrong : ChangeSpec := { name := "kindsNumbers", fn := fun _ => fun
  | [] => { results := [.lit (.bool false)], args := [] }
  | _ => none }
def KindsNumbersWrongFalsely : Prop := kindsNumbersRow.holds Try.pinned (OpenSpec.ofChange kindsNumbersWrong)

/- THE SECOND FORM. 'bulk': how many values and letters a reading holds, each counted each time it is reached (what is shared counts as often as it is met; a slice's spare places count too). A statement '..UptoSaid' is the law's where the arguments, and the package variables that the reading takes, are together of bulk at most 1048576: NARROWER than '..Said'. Prove '..Said' where nothing that the law and all that it calls make is longer than what came in: it says more and counts as full. Else prove '..UptoSaid'. A law counts once. -/
mutual
def uptoBulk {H : Type} : DataW H → Nat
  | .lit (.string bytes) => bytes.length + 1
  | .lit _ => 1
  | .nil => 1
  | .ptr d => uptoBulk d + 1
  | .slice elems spare => uptoBulkAll elems + uptoBulkAll spare + 1
  | .agg parts => uptoBulkAll parts + 1
  | .iface _ d => uptoBulk d + 1
  | .map entries => uptoBulkEntries entries + 1
  | .held _ => 1
def uptoBulkAll {H : Type} : List (DataW H) → Nat
  | [] => 0
  | d :: r => uptoBulk d + uptoBulkAll r
def uptoBulkEntries {H : Type} : List (Lit × DataW H) → Nat
  | [] => 0
  | x :: r => uptoBulkEntry x + uptoBulkEntries r
def uptoBulkEntry {H : Type} : Lit × DataW H → Nat
  | (.string bytes, d) => bytes.length + uptoBulk d + 1
  | (_, d) => uptoBulk d + 1
 end
def uptoSmall : (H : Type) → List (DataW H) → Bool := fun _ ds => decide (uptoBulkAll ds ≤ 1048576)
def OpenSpec.upto (s : _root_.Go.ChangeSpec) : _root_.Go.OpenSpec := { _root_.Go.OpenSpec.ofChange s with cond := some uptoSmall }

/-- 'squintlaw04.KindsTables', WHERE WHAT IT READS IS OF BULK AT MOST 1048576: true; the input reads as it did. -/
def kindsTablesUptoRow : OpenClaim := { program := "ytapagakfckjhdaa", sum := "a67f5d15e10ac6afc7d562b32ef36cf127ec45ccbd0c22a376caff677ca359f4", func := "squint/squintlaw04.KindsTables", spec := "kindsTables", recurses := true, plainKeys := false, apart := false, narrowed := true }
def KindsTablesUptoSaid : Prop := kindsTablesUptoRow.holds Try.pinned (OpenSpec.upto kindsTablesSpec)

/-- 'squintlaw04.KindsValid', WHERE WHAT IT READS IS OF BULK AT MOST 1048576: true; the input reads as it did. -/
def kindsValidUptoRow : OpenClaim := { program := "ytapagakfckjhdaa", sum := "a67f5d15e10ac6afc7d562b32ef36cf127ec45ccbd0c22a376caff677ca359f4", func := "squint/squintlaw04.KindsValid", spec := "kindsValid", recurses := true, plainKeys := false, apart := false, narrowed := true }
def KindsValidUptoSaid : Prop := kindsValidUptoRow.holds Try.pinned (OpenSpec.upto kindsValidSpec)

/-- 'squintlaw04.KindsSame', WHERE WHAT IT READS IS OF BULK AT MOST 1048576: true; the input reads as it did. -/
def kindsSameUptoRow : OpenClaim := { program := "ytapagakfckjhdaa", sum := "a67f5d15e10ac6afc7d562b32ef36cf127ec45ccbd0c22a376caff677ca359f4", func := "squint/squintlaw04.KindsSame", spec := "kindsSame", recurses := true, plainKeys := false, apart := false, narrowed := true }
def KindsSameUptoSaid : Prop := kindsSameUptoRow.holds Try.pinned (OpenSpec.upto kindsSameSpec)

/-- 'squintlaw04.KindsLaws', WHERE WHAT IT READS IS OF BULK AT MOST 1048576: true; the input reads as it did. -/
def kindsLawsUptoRow : OpenClaim := { program := "ytapagakfckjhdaa", sum := "a67f5d15e10ac6afc7d562b32ef36cf127ec45ccbd0c22a376caff677ca359f4", func := "squint/squintlaw04.KindsLaws", spec := "kindsLaws", recurses := true, plainKeys := false, apart := false, narrowed := true }
def KindsLawsUptoSaid : Prop := kindsLawsUptoRow.holds Try.pinned (OpenSpec.upto kindsLawsSpec)

/-- 'squintlaw04.KindsWays', WHERE WHAT IT READS IS OF BULK AT MOST 1048576: true; the input reads as it did. -/
def kindsWaysUptoRow : OpenClaim := { program := "ytapagakfckjhdaa", sum := "a67f5d15e10ac6afc7d562b32ef36cf127ec45ccbd0c22a376caff677ca359f4", func := "squint/squintlaw04.KindsWays", spec := "kindsWays", recurses := true, plainKeys := false, apart := false, narrowed := true }
def KindsWaysUptoSaid : Prop := kindsWaysUptoRow.holds Try.pinned (OpenSpec.upto kindsWaysSpec)

/-- 'squintlaw04.KindsNumbers', WHERE WHAT IT READS IS OF BULK AT MOST 1048576: true; the input reads as it did. -/
def kindsNumbersUptoRow : OpenClaim := { program := "ytapagakfckjhdaa", sum := "a67f5d15e10ac6afc7d562b32ef36cf127ec45ccbd0c22a376caff677ca359f4", func := "squint/squintlaw04.KindsNumbers", spec := "kindsNumbers", recurses := true, plainKeys := false, apart := false, narrowed := true }
def KindsNumbersUptoSaid : Prop := kindsNumbersUptoRow.holds Try.pinned (OpenSpec.upto kindsNumbersSpec)

end Rows
end Go.Proofs.Ytapagakfckjhdaa
