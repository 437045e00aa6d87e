/-
  How a table of types is read.
-/
import Derived.Test.YtapagakfckjhdaaPKindsSamex0
import Derived.Test.YtapagakfckjhdaaOpn
set_option autoImplicit false
namespace Go.Proofs.Ytapagakfckjhdaa.PKindsSame
open Go.RowKit Go.Proofs.YtapagakfckjhdaaW.PrintWords Go.Proofs.Ytapagakfckjhdaa.Opn
def B43 (x : S43) : Nat := (1 + (((x.f1.map fun _ => 1).sum + 1) + 1)) + 1
def G43 (x : S43) : Prop := (Lit.int .i64 x.f0).wf = true ∧ (∀ y ∈ x.f1, (Lit.int .i64 y).wf = true) ∧ True
theorem B43_one (x : S43) : 1 ≤ B43 x := by unfold B43; omega
theorem B43_kids (x : S43) : x.f1.length ≤ B43 x := by unfold B43; rw [sum_ones]; omega
theorem op24 : ∀ n, ReadsAs Try.prog 24 (Kd.slice 3 (Kd.int .i64)) (fun l => (l.map fun _ => 1).sum + 1) (fun l => ∀ y ∈ l, (Lit.int .i64 y).wf = true) n :=
  op_slices Try.underlying24 (by kernel_rfl) (op_int Try.underlying3)
theorem op43 (n : Nat) : ReadsAs Try.prog 43 k43 B43 G43 n :=
  op_iso (fun x : S43 => (x.f0, x.f1, x.f2)) (fun p => ⟨p.1, p.2.1, p.2.2⟩) (fun _ => rfl)
    (op_structs Try.underlying43 (by kernel_rfl) (fun n => opF_cons _ _ (by kernel_rfl) (op_int Try.underlying3 n) (opF_cons _ _ (by kernel_rfl) (op24 n) (opF_one _ (by kernel_rfl) (op_bool Try.underlying4 n)))) n)
theorem op36 : ∀ n, ReadsAs Try.prog 36 (Kd.slice 43 k43) (fun l => (l.map B43).sum + 1) (fun l => ∀ x ∈ l, G43 x) n :=
  op_slices Try.underlying36 (by kernel_rfl) op43
end Go.Proofs.Ytapagakfckjhdaa.PKindsSame
