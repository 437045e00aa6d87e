/-
  No cell of these rows narrows 'for every input' (looked for: loops, veiled, ifaces, maps, wideKeys, modest, calm, conditions, laid).
  DERIVED. THE GIVEN ROWS OF THIS SEAT. 4 by the template 'for every input the law returns true; each argument reads behind the call as it read before'; 0 by the template 'total and deterministic' (their statements: YtehmhhlhlipbnaaTotals.lean).
  GIVEN WITH THE SEED: the statements are not yours to turn. If you find one false, say at which input.
  Laid BY PROGRAM, IN A SANDBOX (cutbox-rows.mjs): the forced cells as the released guide's own fill.sh prints them over the translation 214206f784289f80… (all of the seat's roots in one cut). By AI agents, Wed Nov 11 2026. No macro, syntax, notation, axiom, sorry.
-/
import Derived.Test.YtehmhhlhlipbnaaChecked
import GoSem.Claim
import GoSem.ClaimJoined
import GoSem.ClaimMapViews
import Derived.JoinedTies
import Derived.KernelRfl
namespace Go.Proofs.Ytehmhhlhlipbnaa
/- THE CELL 'sum', in the pinned program and in every row, IS THE sha256 OF THE DUMP (.gsa) THAT YtehmhhlhlipbnaaProg.lean LOADS. Nothing in Lean hashes anything: it is a label: what it is worth is what the hold of that sum in a sandbox is worth. -/
noncomputable def Try.pinned : Pinned := { name := "ytehmhhlhlipbnaa", sum := "214206f784289f80e897a7f9c996662d28b1cc230197a80881e00ee296c72111", checked := Try.checked }
namespace Rows
def none {H : Type} : Left H := { results := [], args := [] }

/-- 'squintlaw03.ParseReads': WHATEVER THE INPUT: true; the input reads as it did. -/
def parseReadsSpec : ChangeSpec := { name := "parseReads", fn := fun _ => fun
  | [d1, d2, d3] => { results := [.lit (.bool true)], args := [d1, d2, d3] }
  | _ => none }
def parseReadsRow : OpenClaim := { program := "ytehmhhlhlipbnaa", sum := "214206f784289f80e897a7f9c996662d28b1cc230197a80881e00ee296c72111", func := "squint/squintlaw03.ParseReads", spec := "parseReads", unfollowed := true, recurses := true, apart := false }
def ParseReadsSaid : Prop := parseReadsRow.holds Try.pinned (OpenSpec.ofChange parseReadsSpec)

/-- ITS FALSE NEIGHBOUR: 'it returns false'. Refute it at one input. -/
def parseReadsWrong : ChangeSpec := { name := "parseReads", fn := fun _ => fun
  | [d1, d2, d3] => { results := [.lit (.bool false)], args := [d1, d2, d3] }
  | _ => none }
def ParseReadsWrongFalsely : Prop := parseReadsRow.holds Try.pinned (OpenSpec.ofChange parseReadsWrong)

/-- 'squintlaw03.ParseBlanks': WHATEVER THE INPUT: true; the input reads as it did. -/
def parseBlanksSpec : ChangeSpec := { name := "parseBlanks", fn := fun _ => fun
  | [d1, d2] => { results := [.lit (.bool true)], args := [d1, d2] }
  | _ => none }
def parseBlanksRow : OpenClaim := { program := "ytehmhhlhlipbnaa", sum := "214206f784289f80e897a7f9c996662d28b1cc230197a80881e00ee296c72111", func := "squint/squintlaw03.ParseBlanks", spec := "parseBlanks", unfollowed := true, recurses := true, apart := false }
def ParseBlanksSaid : Prop := parseBlanksRow.holds Try.pinned (OpenSpec.ofChange parseBlanksSpec)

/-- ITS FALSE NEIGHBOUR: 'it returns false'. Refute it at one input. -/
def parseBlanksWrong : ChangeSpec := { name := "parseBlanks", fn := fun _ => fun
  | [d1, d2] => { results := [.lit (.bool false)], args := [d1, d2] }
  | _ => none }
def ParseBlanksWrongFalsely : Prop := parseBlanksRow.holds Try.pinned (OpenSpec.ofChange parseBlanksWrong)

/-- 'squintlaw03.ParseBeginnings': WHATEVER THE INPUT: true; the input reads as it did. -/
def parseBeginningsSpec : ChangeSpec := { name := "parseBeginnings", fn := fun _ => fun
  | [d1, d2] => { results := [.lit (.bool true)], args := [d1, d2] }
  | _ => none }
def parseBeginningsRow : OpenClaim := { program := "ytehmhhlhlipbnaa", sum := "214206f784289f80e897a7f9c996662d28b1cc230197a80881e00ee296c72111", func := "squint/squintlaw03.ParseBeginnings", spec := "parseBeginnings", unfollowed := true, recurses := true, apart := false }
def ParseBeginningsSaid : Prop := parseBeginningsRow.holds Try.pinned (OpenSpec.ofChange parseBeginningsSpec)

/-- ITS FALSE NEIGHBOUR: 'it returns false'. Refute it at one input. -/
def parseBeginningsWrong : ChangeSpec := { name := "parseBeginnings", fn := fun _ => fun
  | [d1, d2] => { results := [.lit (.bool false)], args := [d1, d2] }
  | _ => none }
def ParseBeginningsWrongFalsely : Prop := parseBeginningsRow.holds Try.pinned (OpenSpec.ofChange parseBeginningsWrong)

/-- 'squintlaw03.ParseNest': WHATEVER THE INPUT: true; the input reads as it did. -/
def parseNestSpec : ChangeSpec := { name := "parseNest", fn := fun _ => fun
  | [d1, d2] => { results := [.lit (.bool true)], args := [d1, d2] }
  | _ => none }
def parseNestRow : OpenClaim := { program := "ytehmhhlhlipbnaa", sum := "214206f784289f80e897a7f9c996662d28b1cc230197a80881e00ee296c72111", func := "squint/squintlaw03.ParseNest", spec := "parseNest", unfollowed := true, recurses := true, apart := false }
def ParseNestSaid : Prop := parseNestRow.holds Try.pinned (OpenSpec.ofChange parseNestSpec)

/-- ITS FALSE NEIGHBOUR: 'it returns false'. Refute it at one input. -/
def parseNestWrong : ChangeSpec := { name := "parseNest", fn := fun _ => fun
  | [d1, d2] => { results := [.lit (.bool false)], args := [d1, d2] }
  | _ => none }
def ParseNestWrongFalsely : Prop := parseNestRow.holds Try.pinned (OpenSpec.ofChange parseNestWrong)

/- THE SECOND FORM. 'bulk': how many values and letters a reading holds, each counted each time it is reached (what is shared counts as often as it is met; a slice's spare places count too). A statement '..UptoSaid' is the law's where the arguments, and the package variables that the reading takes, are together of bulk at most 1048576: NARROWER than '..Said'. Prove '..Said' where nothing that the law and all that it calls make is longer than what came in: it says more and counts as full. Else prove '..UptoSaid'. A law counts once. -/
mutual
def uptoBulk {H : Type} : DataW H → Nat
  | .lit (.string bytes) => bytes.length + 1
  | .lit _ => 1
  | .nil => 1
  | .ptr d => uptoBulk d + 1
  | .slice elems spare => uptoBulkAll elems + uptoBulkAll spare + 1
  | .agg parts => uptoBulkAll parts + 1
  | .iface _ d => uptoBulk d + 1
  | .map entries => uptoBulkEntries entries + 1
  | .held _ => 1
def uptoBulkAll {H : Type} : List (DataW H) → Nat
  | [] => 0
  | d :: r => uptoBulk d + uptoBulkAll r
def uptoBulkEntries {H : Type} : List (Lit × DataW H) → Nat
  | [] => 0
  | x :: r => uptoBulkEntry x + uptoBulkEntries r
def uptoBulkEntry {H : Type} : Lit × DataW H → Nat
  | (.string bytes, d) => bytes.length + uptoBulk d + 1
  | (_, d) => uptoBulk d + 1
 end
def uptoSmall : (H : Type) → List (DataW H) → Bool := fun _ ds => decide (uptoBulkAll ds ≤ 1048576)
def OpenSpec.upto (s : _root_.Go.ChangeSpec) : _root_.Go.OpenSpec := { _root_.Go.OpenSpec.ofChange s with cond := some uptoSmall }

/-- 'squintlaw03.ParseReads', WHERE WHAT IT READS IS OF BULK AT MOST 1048576: true; the input reads as it did. -/
def parseReadsUptoRow : OpenClaim := { program := "ytehmhhlhlipbnaa", sum := "214206f784289f80e897a7f9c996662d28b1cc230197a80881e00ee296c72111", func := "squint/squintlaw03.ParseReads", spec := "parseReads", unfollowed := true, recurses := true, apart := false, narrowed := true }
def ParseReadsUptoSaid : Prop := parseReadsUptoRow.holds Try.pinned (OpenSpec.upto parseReadsSpec)

/-- 'squintlaw03.ParseBlanks', WHERE WHAT IT READS IS OF BULK AT MOST 1048576: true; the input reads as it did. -/
def parseBlanksUptoRow : OpenClaim := { program := "ytehmhhlhlipbnaa", sum := "214206f784289f80e897a7f9c996662d28b1cc230197a80881e00ee296c72111", func := "squint/squintlaw03.ParseBlanks", spec := "parseBlanks", unfollowed := true, recurses := true, apart := false, narrowed := true }
def ParseBlanksUptoSaid : Prop := parseBlanksUptoRow.holds Try.pinned (OpenSpec.upto parseBlanksSpec)

/-- 'squintlaw03.ParseBeginnings', WHERE WHAT IT READS IS OF BULK AT MOST 1048576: true; the input reads as it did. -/
def parseBeginningsUptoRow : OpenClaim := { program := "ytehmhhlhlipbnaa", sum := "214206f784289f80e897a7f9c996662d28b1cc230197a80881e00ee296c72111", func := "squint/squintlaw03.ParseBeginnings", spec := "parseBeginnings", unfollowed := true, recurses := true, apart := false, narrowed := true }
def ParseBeginningsUptoSaid : Prop := parseBeginningsUptoRow.holds Try.pinned (OpenSpec.upto parseBeginningsSpec)

/-- 'squintlaw03.ParseNest', WHERE WHAT IT READS IS OF BULK AT MOST 1048576: true; the input reads as it did. -/
def parseNestUptoRow : OpenClaim := { program := "ytehmhhlhlipbnaa", sum := "214206f784289f80e897a7f9c996662d28b1cc230197a80881e00ee296c72111", func := "squint/squintlaw03.ParseNest", spec := "parseNest", unfollowed := true, recurses := true, apart := false, narrowed := true }
def ParseNestUptoSaid : Prop := parseNestUptoRow.holds Try.pinned (OpenSpec.upto parseNestSpec)

end Rows
end Go.Proofs.Ytehmhhlhlipbnaa
