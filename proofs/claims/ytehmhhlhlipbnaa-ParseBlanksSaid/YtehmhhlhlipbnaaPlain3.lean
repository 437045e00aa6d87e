/-
 ParseNest: the plain law.
-/
import Derived.Test.YtehmhhlhlipbnaaLaw2
set_option autoImplicit false
set_option linter.unusedVariables false
set_option linter.unusedSimpArgs false
namespace Go.Proofs.Ytehmhhlhlipbnaa.Vs
open Go.VI Go.Proofs
section
variable {tx : Nat → List UInt8} {src : List UInt8}
/-- what Parse comes to: what the scanner says; a fault at a token; a tree -/
theorem parse_cases (tx : Nat → List UInt8) (src : List UInt8) :
  ((scanF tx src).2.2 ≠ 0 ∧ ∀ nest, parseF tx src nest = ([], (scanF tx src).2.1, (scanF tx src).2.2)) ∨
  ((scanF tx src).2.2 = 0 ∧ ∃ i, i ≤ (scanF tx src).1.length ∧ pProgram tx src (scanF tx src).1 (fuelP (scanF tx src).1) ⟨0, []⟩ = some (.error (plF src (scanF tx src).1 i)) ∧ ∀ nest, parseF tx src nest = ([], plF src (scanF tx src).1 i, 30)) ∨
  ((scanF tx src).2.2 = 0 ∧ ∃ v s n ts, s.ns = (TR.mk 46 0 [] n ts).flat 0 ∧ szL ts ≤ (scanF tx src).1.length ∧ pProgram tx src (scanF tx src).1 (fuelP (scanF tx src).1) ⟨0, []⟩ = some (.ok (v, s)) ∧
   ∀ nest, parseF tx src nest = match deepF nest (TR.mk 46 0 [] n ts).hs s.ns with | some a => ([], a, 31) | none => (s.ns, 0, 0)) := by
 by_cases c : (scanF tx src).2.2 = 0
 ·have hT := tok_ok c
  obtain ⟨h1, h2, h3⟩ := program_tree (tx := tx) (src := src) hT.len
  cases hp : pProgram tx src (scanF tx src).1 (fuelP (scanF tx src).1) ⟨0, []⟩ with
  | none => exact absurd hp h1
  | some r =>
   cases r with
   | error e =>
    obtain ⟨i, q1, q2⟩ := h3 e hp
    subst q2
    exact .inr (.inl ⟨c, i, q1, rfl, fun nest => parseF_bad c hp⟩)
   | ok r =>
    obtain ⟨v, s⟩ := r
    obtain ⟨n, ts, q1, q2, q3⟩ := h2 v s hp
    refine .inr (.inr ⟨c, v, s, n, ts, q2, q3, rfl, fun nest => ?_⟩)
    have hh : hts s.ns s.ns.length = (TR.mk 46 0 [] n ts).hs := by rw [q2]; exact hts_tree _
    cases hd : deepF nest (TR.mk 46 0 [] n ts).hs s.ns with
    | none => rw [← hh] at hd; exact parseF_ok c hp hd
    | some a => rw [← hh] at hd; exact parseF_deep c hp hd
 ·exact .inl ⟨c, fun nest => parseF_scan c⟩
end
end Go.Proofs.Ytehmhhlhlipbnaa.Vs
