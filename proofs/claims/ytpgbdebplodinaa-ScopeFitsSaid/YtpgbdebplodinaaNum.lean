/-
  ScopeFits answers true, whatever the world: the abstract machine goes through it once, in the kernel.
-/
import Derived.Test.YtpgbdebplodinaaRows
import Derived.Test.YtpgbdebplodinaaTa
import Derived.Test.YtpgbdebplodinaaVi2
set_option autoImplicit false
namespace Go.Proofs.Ytpgbdebplodinaa
open Go.ChangeShapes Go.WideShapes Go.ChangeAt Go.RowKit Go.VI

theorem own : ownKnob Try.prog.godebug = none := by kernel_rfl
theorem numbersTells : tells (acall Try.prog (table tabKinds) 200 6 [] AH.empty) = true := by kernel_rfl
theorem numbersCalls (w : World) : Calls Try.prog 6 #[] w fun e w' => e = .returned (.bool true) ∧ Below w.heap.size w w' :=
  law0 mixed namesOk kindsOk numbersTells w

set_option maxRecDepth 100000 in
theorem numbersLifted (os : Os) (started : os.Started) (H : Type) (enc : TypeId × Value → H) :
    ReturnsInHanded {} Try.checked os 6 .any (Rows.scopeFitsSpec.pre6 enc Try.prog Try.f6 Rows.scopeFitsRow.domain false) (Rows.scopeFitsSpec.post enc Try.prog Try.f6 false true false false) := by
  refine returnsInHanded_of_change (C := Try.checked) own started (by kernel_rfl) Try.func6
    (ChangeSpec.witness6 (enc := enc) (C := Try.checked) false ⟨#[], #[], []⟩ 8 (by kernel_rfl) (by kernel_rfl) (by kernel_rfl) (by kernel_rfl)) ?_
  intro W base args ds gs before hval hW _ _
  have hW' := hW
  obtain ⟨p, q, hA0, hV, rfl, hfz, hnd⟩ := hW
  have hA : DataW.TrodAll enc Try.prog W 0 (fun _ => true) true Try.f6.params.toList args.toList ds p := hA0
  rw [Try.params6] at hA
  obtain ⟨rfl, rfl, rfl⟩ := trodAll_none hA
  obtain ⟨rfl, rfl⟩ := trodVars_none hV
  clear hA0
  simp only [List.append_nil] at hW'
  refine (numbersCalls W).mono fun e W' ⟨he, hb⟩ => ?_
  subst he
  exact ⟨_, rfl, post_below (pa := []) (pv := []) hW' (fun _ _ _ => trodAll_cons_mk (shut_bool Try.underlying4 _) trodAll_mk0) (fun _ _ => trodAll_mk0) (fun _ _ => rfl) rfl
    hb (ok_one (by kernel_rfl) rfl (okWide_bool_mk Try.underlying4 _))⟩

theorem scopeFits_holds : Rows.ScopeFitsSaid :=
  OpenClaim.holds_of_wide 6 Try.f6 rfl rfl rfl rfl rfl rfl rfl ⟨rfl, rfl, rfl, rfl, rfl⟩ rfl rfl rfl rfl rfl (by kernel_rfl) Try.func6 (by kernel_rfl)
    (of_decide_eq_true (by kernel_rfl)) (by unfold Func.isWrapper; first | (rw [if_pos (by decide +kernel)]; kernel_rfl) | (rw [if_neg (by decide +kernel)]; exact ⟨rfl, rfl⟩))
    (fun os started H enc _ => numbersLifted os started H enc)
end Go.Proofs.Ytpgbdebplodinaa
