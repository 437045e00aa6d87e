/-
  The row of ParseBlanks: its arguments opened as values of the abstract machine, on which it answers true.
-/
import Derived.Test.YtehmhhlhlipbnaaRows
import Derived.Test.YtehmhhlhlipbnaaLaw5
import Derived.Test.YtehmhhlhlipbnaaReadB
import Derived.Test.YtehmhhlhlipbnaaOrcP
import Derived.Test.YtehmhhlhlipbnaaTxB
import Derived.Test.YtehmhhlhlipbnaaVj
import Derived.WalkKit
import Derived.ProofKit
import Derived.OpenShut
import Derived.ShutString
import Derived.ChangeOld
import Derived.Below
import Derived.SizedLaws
import Derived.JoinedCond
set_option linter.unusedVariables false
set_option linter.unusedSimpArgs false
namespace Go.Proofs.Ytehmhhlhlipbnaa.parseBlanks
open Go.ChangeShapes Go.WideShapes Go.ChangeAt Go.RowKit Go.VI Go.Proofs.Ytehmhhlhlipbnaa.Vs
open Go.ChangeMaps (open_string shut_string)
theorem own : ownKnob Try.prog.godebug = none := by kernel_rfl
theorem laidOut : laidOutB Try.prog = true := by kernel_rfl
set_option maxRecDepth 100000 in
theorem contract (H : Type) (enc : TypeId × Value → H) (W : World) (base : Nat) (args : Array Value) (ds gs : List (DataW H)) (before : List MemPlace)
    (hval : ∀ (j : Nat) t v, Try.f4.params[j]? = some t → args[j]? = some v → Value.okWide Try.prog W .any base t v)
    (hW : DataW.Whole enc Try.prog Try.f4.params.toList Rows.parseBlanksSpec.vars false W args.toList ds gs before)
    (hwt : (DataW.weightsEach Try.prog (Try.f4.params.toList ++ Rows.parseBlanksSpec.plain.varTypes Try.prog) (ds ++ gs)).all (· ≤ reachBytes) = true) :
    Calls Try.prog 4 args W fun e W' => ∃ v, e = .returned v ∧ Rows.parseBlanksSpec.post enc Try.prog Try.f4 false true false false W args v W' := by
  have hwa : ∀ {j : Nat} {t : TypeId} {d : DataW H}, (Try.f4.params.toList ++ Rows.parseBlanksSpec.plain.varTypes Try.prog)[j]? = some t → (ds ++ gs)[j]? = some d → ∀ x ∈ d.weights Try.prog t, x ≤ reachBytes := fun ht hd x hx => by
    have := List.all_eq_true.1 hwt x (DataW.weights_mem_each ht hd x hx)
    simpa using this
  have hW' := hW
  obtain ⟨p, q, hA0, hV, rfl, hfz, hnd⟩ := hW
  have hA : DataW.TrodAll enc Try.prog W 0 (fun _ => true) true Try.f4.params.toList args.toList ds p := hA0
  rw [Try.params4] at hA hval hwa
  obtain ⟨v0, vs0, d0, ds0, p0, q0, hargs, rfl, rfl, h0, r0⟩ := trodAll_cons hA
  obtain ⟨v1, vs1, d1, ds1, p1, q1, rfl, rfl, rfl, h1, r1⟩ := trodAll_cons r0
  obtain ⟨rfl, rfl, rfl⟩ := trodAll_nil r1
  obtain rfl : args = #[v0, v1] := by cases args; simp_all
  obtain ⟨rfl, rfl⟩ := trodVars_none hV
  have k0 := h0
  have lt0 : ∀ x ∈ p0, x.block < W.heap.size := by obtain ⟨m, hm⟩ := k0; exact DataW.trod_lt m _ _ _ hm
  obtain ⟨as0, hr0, hR0⟩ := rv_open (rv22) h0 (hwa (j := 0) rfl rfl)
  obtain ⟨a0, len0, cap0, rfl⟩ := okWide_slice Try.underlying22 (hval 0 22 v0 rfl rfl)
  obtain ⟨l0, x0, rfl, hs0, hn0⟩ := hR0
  have k1 := h1
  have lt1 : ∀ x ∈ p1, x.block < W.heap.size := by obtain ⟨m, hm⟩ := k1; exact DataW.trod_lt m _ _ _ hm
  obtain ⟨as1, hr1, hR1⟩ := rv_open (rv30) h1 (hwa (j := 1) rfl rfl)
  obtain ⟨a1, len1, cap1, rfl⟩ := okWide_slice Try.underlying30 (hval 1 30 v1 rfl rfl)
  obtain ⟨l1, x1, rfl, hs1, hn1⟩ := hR1

  have hvr : VRs (fun _ => none) (memOf W) [x0, x1] #[_, _].toList := (.cons _ _ _ _ (by cases hr0 with | cons _ _ _ _ hv hk => exact hv) (.cons _ _ _ _ (by cases hr1 with | cons _ _ _ _ hv hk => exact hv) .nil))
  have hfin := parseBla_fin (orc := orcN) butN Wf.empty ho81 txK ho69 ho7 tryN_ok txK_bla l0 l1 x0 x1 (hs0 _) (hs1 _) hn1
  refine (law_calls mixed namesOk (orcN_sound) hvr hfin (fun r H' h => h.1)).mono fun e W' ⟨he, bel⟩ => ?_
  subst he
  exact ⟨_, rfl, _, _, _, [], _, [], hW', trodAll_mk1 (shut_bool Try.underlying4 _), (trodAll_cons_mk (Below.trod laidOut (by kernel_rfl) (of_decide_eq_true (by kernel_rfl)) k0 bel lt0) (trodAll_cons_mk (Below.trod laidOut (by kernel_rfl) (of_decide_eq_true (by kernel_rfl)) k1 bel lt1) trodAll_mk0)), rfl, bel.frame _, fun h => by cases h⟩
set_option maxRecDepth 100000 in
theorem lifted (os : Os) (started : os.Started) (H : Type) (enc : TypeId × Value → H) :
    ReturnsInHanded {} Try.checked os 4 .any (Rows.parseBlanksSpec.pre6 enc Try.prog Try.f4 Rows.parseBlanksRow.domain false) (Rows.parseBlanksSpec.post enc Try.prog Try.f4 false true false false) := by
  refine returnsInHanded_of_change_sized (C := Try.checked) own started (by kernel_rfl) Try.func4
    (ChangeSpec.witness6 (enc := enc) (C := Try.checked) false ⟨#[], #[.slice none 0 0, .slice none 0 0], []⟩ 8 (by kernel_rfl) (by kernel_rfl) (by kernel_rfl) (by kernel_rfl)) ?_
  intro W base args ds gs before hval hW _ hwt _
  exact contract H enc W base args ds gs before hval hW hwt
theorem proved : Rows.ParseBlanksSaid :=
  OpenClaim.holds_of_wide 4 Try.f4 rfl rfl rfl rfl rfl rfl rfl ⟨rfl, rfl, rfl, rfl, rfl⟩ rfl rfl rfl rfl rfl (by kernel_rfl) Try.func4 (by kernel_rfl)
    (of_decide_eq_true (by kernel_rfl)) (by unfold Func.isWrapper; first | (rw [if_pos (by decide +kernel)]; kernel_rfl) | (rw [if_neg (by decide +kernel)]; exact ⟨rfl, rfl⟩))
    (fun os started H enc _ => lifted os started H enc)
end Go.Proofs.Ytehmhhlhlipbnaa.parseBlanks
namespace Go.Proofs.Ytehmhhlhlipbnaa
theorem parseBlanks_holds : Rows.ParseBlanksSaid := parseBlanks.proved
#print axioms parseBlanks_holds
end Go.Proofs.Ytehmhhlhlipbnaa
