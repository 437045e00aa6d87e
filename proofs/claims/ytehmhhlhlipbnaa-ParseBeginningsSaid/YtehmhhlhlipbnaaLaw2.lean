/-
 ParseNest, gone through: what it answers.
-/
import Derived.Test.YtehmhhlhlipbnaaLaw1
set_option autoImplicit false
set_option linter.unusedVariables false
set_option linter.unusedSimpArgs false
namespace Go.Proofs.Ytehmhhlhlipbnaa.Vs
open Go.VI Go.Proofs
variable {orc : CallF}
theorem guard34 : Try.prog.eqGuardType Try.prog.depth 34 = false := by kernel_rfl
theorem stood34 : Try.prog.stoodInHeld 34 = false := by kernel_rfl
theorem eq3 (d : Nat) (a b : Int) : eqA Try.prog (d + 1) 3 (.int .i64 a) (.int .i64 b) = some (decide (a = b)) := by
 simp only [eqA, Try.underlying3, eqI_eq, if_true]
theorem eq32 (d : Nat) (a b : Int) : eqA Try.prog (d + 1) 32 (.int .i64 a) (.int .i64 b) = some (decide (a = b)) := by
 simp only [eqA, Try.underlying32, eqI_eq, if_true]
theorem eqF34 (eq : TypeId → AV → AV → Option Bool) (f1 f2 : Field) (h1 : f1.name ≠ "_") (h2 : f2.name ≠ "_") (o1 : f1.offset = 0) (o2 : f2.offset = 1) (t1 : f1.type = 3) (t2 : f2.type = 32) (a b c d : Int) (e1 : eq 3 (.int .i64 a) (.int .i64 c) = some (decide (a = c))) (e2 : eq 32 (.int .i64 b) (.int .i64 d) = some (decide (b = d))) :
  eqA.eqFields Try.prog eq [f1, f2] [AV.int IntKind.i64 a, AV.int IntKind.i64 b] [AV.int IntKind.i64 c, AV.int IntKind.i64 d] = some (decide (a = c) && decide (b = d)) := by
 have p1 : ∀ x y : Int, partOf Try.prog 3 [AV.int .i64 x, AV.int .i64 y] 0 = some (.int .i64 x) := fun x y => by
  unfold partOf; simp only [Ty.agg3, Ty.csz3]; rfl
 have p2 : ∀ x y : Int, partOf Try.prog 32 [AV.int .i64 x, AV.int .i64 y] 1 = some (.int .i64 y) := fun x y => by
  unfold partOf; simp only [Ty.agg32, Ty.csz32]; rfl
 simp only [eqA.eqFields, h1, h2, o1, o2, t1, t2, p1, p2, e1, e2, ne_eq, not_false_eq_true, if_true]
 by_cases c1 : a = c <;> by_cases c2 : b = d <;> simp [c1, c2]
theorem eq34 (n : Nat) (a b c d : Int) : eqA Try.prog (n + 2) 34 (.agg [.int .i64 a, .int .i64 b]) (.agg [.int .i64 c, .int .i64 d]) = some (decide (a = c) && decide (b = d)) := by
 unfold eqA
 simp only [Try.underlying34, stood34, Bool.false_eq_true, if_false]
 exact eqF34 _ _ _ (by decide) (by decide) rfl rfl rfl rfl a b c d (eq3 n a c) (eq32 n b d)
/-- what ParseNest asks -/
structure NestOk (p q : List ND × Int × Int) (nest : Int) : Prop where
 deep : p.2.2 = 31 → 65536 < nest ∨ q.2.2 = 31
 bad : p.2.2 ≠ 31 → p.2.2 ≠ 0 → q.2.1 = p.2.1 ∧ q.2.2 = p.2.2
 pos : p.2.2 = 0 → 0 < p.1.length ∧ p.1.length ≤ 70000
 low : p.2.2 = 0 → ∀ x, (hts p.1 p.1.length)[p.1.length - 1]? = some x → x ≤ nest → q = (p.1, 0, 0)
 high : p.2.2 = 0 → ∀ x, (hts p.1 p.1.length)[p.1.length - 1]? = some x → nest < x → ∃ i v y, i < p.1.length ∧ p.1[i]? = some v ∧ (hts p.1 p.1.length)[i]? = some y ∧ nest < y ∧ (∀ j z, j < i → (hts p.1 p.1.length)[j]? = some z → z ≤ nest) ∧ q = ([], v.at_, 31)
end Go.Proofs.Ytehmhhlhlipbnaa.Vs
