/-
 ParseNest, gone through: what it answers.
-/
import Derived.Test.YtehmhhlhlipbnaaLaw1
set_option autoImplicit false
set_option linter.unusedVariables false
set_option linter.unusedSimpArgs false
namespace Go.Proofs.Ytehmhhlhlipbnaa.Vs
open Go.VI Go.Proofs
variable {orc : CallF}
/-- what ParseNest asks -/
structure NestOk (p q : List ND × Int × Int) (nest : Int) : Prop where
 deep : p.2.2 = 31 → 65536 < nest ∨ q.2.2 = 31
 bad : p.2.2 ≠ 31 → p.2.2 ≠ 0 → q.2.1 = p.2.1 ∧ q.2.2 = p.2.2
 pos : p.2.2 = 0 → 0 < p.1.length ∧ p.1.length ≤ 70000
 low : p.2.2 = 0 → ∀ x, (hts p.1 p.1.length)[p.1.length - 1]? = some x → x ≤ nest → q = (p.1, 0, 0)
 high : p.2.2 = 0 → ∀ x, (hts p.1 p.1.length)[p.1.length - 1]? = some x → nest < x → ∃ i v y, i < p.1.length ∧ p.1[i]? = some v ∧ (hts p.1 p.1.length)[i]? = some y ∧ nest < y ∧ (∀ j z, j < i → (hts p.1 p.1.length)[j]? = some z → z ≤ nest) ∧ q = ([], v.at_, 31)
end Go.Proofs.Ytehmhhlhlipbnaa.Vs
