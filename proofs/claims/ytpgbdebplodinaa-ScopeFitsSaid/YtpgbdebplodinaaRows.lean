/-
  No cell of these rows narrows 'for every input' (looked for: loops, veiled, ifaces, maps, wideKeys, modest, calm, conditions, laid).
  DERIVED. THE GIVEN ROWS OF THIS SEAT. 4 by the template 'for every input the law returns true; each argument reads behind the call as it read before'; 0 by the template 'total and deterministic' (their statements: YtpgbdebplodinaaTotals.lean).
  GIVEN WITH THE SEED: the statements are not yours to turn. If you find one false, say at which input.
  Laid BY PROGRAM, IN A SANDBOX (cutbox-rows.mjs): the forced cells as the released guide's own fill.sh prints them over the translation 1af999d5ae8452ca… (all of the seat's roots in one cut). By AI agents, Wed Nov 11 2026. No macro, syntax, notation, axiom, sorry.
-/
import Derived.Test.YtpgbdebplodinaaChecked
import GoSem.Claim
import GoSem.ClaimJoined
import GoSem.ClaimMapViews
import Derived.JoinedTies
import Derived.KernelRfl
namespace Go.Proofs.Ytpgbdebplodinaa
/- THE CELL 'sum', in the pinned program and in every row, IS THE sha256 OF THE DUMP (.gsa) THAT YtpgbdebplodinaaProg.lean LOADS. Nothing in Lean hashes anything: it is a label: what it is worth is what the hold of that sum in a sandbox is worth. -/
noncomputable def Try.pinned : Pinned := { name := "ytpgbdebplodinaa", sum := "1af999d5ae8452ca9dcac2840d322999b167b844a3120231fa459d375fdbbf25", checked := Try.checked }
namespace Rows
def none {H : Type} : Left H := { results := [], args := [] }

/-- 'squintlaw05.ScopeSays': WHATEVER THE INPUT: true; the input reads as it did. -/
def scopeSaysSpec : ChangeSpec := { name := "scopeSays", fn := fun _ => fun
  | [d] => { results := [.lit (.bool true)], args := [d] }
  | _ => none }
def scopeSaysRow : OpenClaim := { program := "ytpgbdebplodinaa", sum := "1af999d5ae8452ca9dcac2840d322999b167b844a3120231fa459d375fdbbf25", func := "squint/squintlaw05.ScopeSays", spec := "scopeSays", unfollowed := true, recurses := true, apart := false }
def ScopeSaysSaid : Prop := scopeSaysRow.holds Try.pinned (OpenSpec.ofChange scopeSaysSpec)

/-- ITS FALSE NEIGHBOUR: 'it returns false'. Refute it at one input. -/
def scopeSaysWrong : ChangeSpec := { name := "scopeSays", fn := fun _ => fun
  | [d] => { results := [.lit (.bool false)], args := [d] }
  | _ => none }
def ScopeSaysWrongFalsely : Prop := scopeSaysRow.holds Try.pinned (OpenSpec.ofChange scopeSaysWrong)

/-- 'squintlaw05.ScopeBlind': WHATEVER THE INPUT: true; the input reads as it did. -/
def scopeBlindSpec : ChangeSpec := { name := "scopeBlind", fn := fun _ => fun
  | [d1, d2] => { results := [.lit (.bool true)], args := [d1, d2] }
  | _ => none }
def scopeBlindRow : OpenClaim := { program := "ytpgbdebplodinaa", sum := "1af999d5ae8452ca9dcac2840d322999b167b844a3120231fa459d375fdbbf25", func := "squint/squintlaw05.ScopeBlind", spec := "scopeBlind", unfollowed := true, recurses := true, apart := false }
def ScopeBlindSaid : Prop := scopeBlindRow.holds Try.pinned (OpenSpec.ofChange scopeBlindSpec)

/-- ITS FALSE NEIGHBOUR: 'it returns false'. Refute it at one input. -/
def scopeBlindWrong : ChangeSpec := { name := "scopeBlind", fn := fun _ => fun
  | [d1, d2] => { results := [.lit (.bool false)], args := [d1, d2] }
  | _ => none }
def ScopeBlindWrongFalsely : Prop := scopeBlindRow.holds Try.pinned (OpenSpec.ofChange scopeBlindWrong)

/-- 'squintlaw05.ScopeRenames': WHATEVER THE INPUT: true; the input reads as it did. -/
def scopeRenamesSpec : ChangeSpec := { name := "scopeRenames", fn := fun _ => fun
  | [d1, d2, d3] => { results := [.lit (.bool true)], args := [d1, d2, d3] }
  | _ => none }
def scopeRenamesRow : OpenClaim := { program := "ytpgbdebplodinaa", sum := "1af999d5ae8452ca9dcac2840d322999b167b844a3120231fa459d375fdbbf25", func := "squint/squintlaw05.ScopeRenames", spec := "scopeRenames", unfollowed := true, recurses := true, apart := false }
def ScopeRenamesSaid : Prop := scopeRenamesRow.holds Try.pinned (OpenSpec.ofChange scopeRenamesSpec)

/-- ITS FALSE NEIGHBOUR: 'it returns false'. Refute it at one input. -/
def scopeRenamesWrong : ChangeSpec := { name := "scopeRenames", fn := fun _ => fun
  | [d1, d2, d3] => { results := [.lit (.bool false)], args := [d1, d2, d3] }
  | _ => none }
def ScopeRenamesWrongFalsely : Prop := scopeRenamesRow.holds Try.pinned (OpenSpec.ofChange scopeRenamesWrong)

/-- 'squintlaw05.ScopeFits': WHATEVER THE INPUT: true; the input reads as it did. -/
def scopeFitsSpec : ChangeSpec := { name := "scopeFits", fn := fun _ => fun
  | [] => { results := [.lit (.bool true)], args := [] }
  | _ => none }
def scopeFitsRow : OpenClaim := { program := "ytpgbdebplodinaa", sum := "1af999d5ae8452ca9dcac2840d322999b167b844a3120231fa459d375fdbbf25", func := "squint/squintlaw05.ScopeFits", spec := "scopeFits", unfollowed := true, recurses := true, apart := false }
def ScopeFitsSaid : Prop := scopeFitsRow.holds Try.pinned (OpenSpec.ofChange scopeFitsSpec)

/-- ITS FALSE NEIGHBOUR: 'it returns false'. Refute it at one input. -/
def scopeFitsWrong : ChangeSpec := { name := "scopeFits", fn := fun _ => fun
  | [] => { results := [.lit (.bool false)], args := [] }
  | _ => none }
def ScopeFitsWrongFalsely : Prop := scopeFitsRow.holds Try.pinned (OpenSpec.ofChange scopeFitsWrong)

/- THE SECOND FORM. 'bulk': how many values and letters a reading holds, each counted each time it is reached (what is shared counts as often as it is met; a slice's spare places count too). A statement '..UptoSaid' is the law's where the arguments, and the package variables that the reading takes, are together of bulk at most 1048576: NARROWER than '..Said'. Prove '..Said' where nothing that the law and all that it calls make is longer than what came in: it says more and counts as full. Else prove '..UptoSaid'. A law counts once. -/
mutual
def uptoBulk {H : Type} : DataW H → Nat
  | .lit (.string bytes) => bytes.length + 1
  | .lit _ => 1
  | .nil => 1
  | .ptr d => uptoBulk d + 1
  | .slice elems spare => uptoBulkAll elems + uptoBulkAll spare + 1
  | .agg parts => uptoBulkAll parts + 1
  | .iface _ d => uptoBulk d + 1
  | .map entries => uptoBulkEntries entries + 1
  | .held _ => 1
def uptoBulkAll {H : Type} : List (DataW H) → Nat
  | [] => 0
  | d :: r => uptoBulk d + uptoBulkAll r
def uptoBulkEntries {H : Type} : List (Lit × DataW H) → Nat
  | [] => 0
  | x :: r => uptoBulkEntry x + uptoBulkEntries r
def uptoBulkEntry {H : Type} : Lit × DataW H → Nat
  | (.string bytes, d) => bytes.length + uptoBulk d + 1
  | (_, d) => uptoBulk d + 1
 end
def uptoSmall : (H : Type) → List (DataW H) → Bool := fun _ ds => decide (uptoBulkAll ds ≤ 1048576)
def OpenSpec.upto (s : _root_.Go.ChangeSpec) : _root_.Go.OpenSpec := { _root_.Go.OpenSpec.ofChange s with cond := some uptoSmall }

/-- 'squintlaw05.ScopeSays', WHERE WHAT IT READS IS OF BULK AT MOST 1048576: true; the input reads as it did. -/
def scopeSaysUptoRow : OpenClaim := { program := "ytpgbdebplodinaa", sum := "1af999d5ae8452ca9dcac2840d322999b167b844a3120231fa459d375fdbbf25", func := "squint/squintlaw05.ScopeSays", spec := "scopeSays", unfollowed := true, recurses := true, apart := false, narrowed := true }
def ScopeSaysUptoSaid : Prop := scopeSaysUptoRow.holds Try.pinned (OpenSpec.upto scopeSaysSpec)

/-- 'squintlaw05.ScopeBlind', WHERE WHAT IT READS IS OF BULK AT MOST 1048576: true; the input reads as it did. -/
def scopeBlindUptoRow : OpenClaim := { program := "ytpgbdebplodinaa", sum := "1af999d5ae8452ca9dcac2840d322999b167b844a3120231fa459d375fdbbf25", func := "squint/squintlaw05.ScopeBlind", spec := "scopeBlind", unfollowed := true, recurses := true, apart := false, narrowed := true }
def ScopeBlindUptoSaid : Prop := scopeBlindUptoRow.holds Try.pinned (OpenSpec.upto scopeBlindSpec)

/-- 'squintlaw05.ScopeRenames', WHERE WHAT IT READS IS OF BULK AT MOST 1048576: true; the input reads as it did. -/
def scopeRenamesUptoRow : OpenClaim := { program := "ytpgbdebplodinaa", sum := "1af999d5ae8452ca9dcac2840d322999b167b844a3120231fa459d375fdbbf25", func := "squint/squintlaw05.ScopeRenames", spec := "scopeRenames", unfollowed := true, recurses := true, apart := false, narrowed := true }
def ScopeRenamesUptoSaid : Prop := scopeRenamesUptoRow.holds Try.pinned (OpenSpec.upto scopeRenamesSpec)

/-- 'squintlaw05.ScopeFits', WHERE WHAT IT READS IS OF BULK AT MOST 1048576: true; the input reads as it did. -/
def scopeFitsUptoRow : OpenClaim := { program := "ytpgbdebplodinaa", sum := "1af999d5ae8452ca9dcac2840d322999b167b844a3120231fa459d375fdbbf25", func := "squint/squintlaw05.ScopeFits", spec := "scopeFits", unfollowed := true, recurses := true, apart := false, narrowed := true }
def ScopeFitsUptoSaid : Prop := scopeFitsUptoRow.holds Try.pinned (OpenSpec.upto scopeFitsSpec)

end Rows
end Go.Proofs.Ytpgbdebplodinaa
