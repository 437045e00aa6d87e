/-
  No keyword and no sign has a blank in it.
-/
import Derived.Test.YtehmhhlhlipbnaaOrcP
set_option autoImplicit false
namespace Go.Proofs.Ytehmhhlhlipbnaa.Vs
open Go.VI Go.Proofs
theorem txK_all : ((List.range 67).all fun k => (txK k).all fun c => !isBla c) = true := by decide +kernel
theorem txK_bla : ∀ k, k < 67 → ∀ c ∈ txK k, isBla c = false := fun k hk c hc => by
  have h1 := List.all_eq_true.1 txK_all k (List.mem_range.2 hk)
  have h2 := List.all_eq_true.1 h1 c hc
  simpa using h2
end Go.Proofs.Ytehmhhlhlipbnaa.Vs
