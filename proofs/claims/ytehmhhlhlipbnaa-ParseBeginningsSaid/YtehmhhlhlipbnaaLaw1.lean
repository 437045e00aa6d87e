/-
 numbers and nodes of squintlaw03: whether two lists are the same.
-/
import Derived.Test.YtehmhhlhlipbnaaPlain2
set_option autoImplicit false
set_option linter.unusedVariables false
set_option linter.unusedSimpArgs false
namespace Go.Proofs.Ytehmhhlhlipbnaa.Vs
open Go.VI Go.Proofs
variable {orc : CallF}
def nodeP (but : Bool) (x y : ND) : Prop := x.k = y.k ∧ (but = true ∨ x.at_ = y.at_) ∧ x.nm = y.nm ∧ x.n = y.n ∧ x.ks = y.ks
def nodesP (but : Bool) (l m : List ND) : Prop := l.length = m.length ∧ ∀ i, (h : i < l.length) → (h' : i < m.length) → nodeP but l[i] m[i]
open Classical in
noncomputable def nodesB (but : Bool) (l m : List ND) : Bool := decide (nodesP but l m)
end Go.Proofs.Ytehmhhlhlipbnaa.Vs
