/-
  The row of TreeKids: its arguments opened as values of the abstract machine, on which it answers true.
-/
import Derived.Test.YtpdphdbphhaekaaDoorRows
import Derived.Test.YtpdphdbphhaekaaDoorTree12
import Derived.Test.YtpdphdbphhaekaaDoorReadN
import Derived.Test.YtpdphdbphhaekaaDoorOrcN
import Derived.WalkKit
import Derived.LaidMore
import Derived.ProofKit
import Derived.OpenShut
import Derived.ShutString
import Derived.ChangeOld
import Derived.Below
import Derived.SizedLaws
import Derived.JoinedCond
set_option linter.unusedVariables false
set_option linter.unusedSimpArgs false
namespace Go.Proofs.YtpdphdbphhaekaaDoor.treeKids
open Go.ChangeShapes Go.WideShapes Go.ChangeAt Go.RowKit Go.VI Go.Proofs.YtpdphdbphhaekaaDoor.Vs
open Go.ChangeMaps (open_string shut_string)
theorem own : ownKnob Tryd.prog.godebug = none := by kernel_rfl
theorem laidOut : laidOutB Tryd.prog = true := by kernel_rfl
set_option maxRecDepth 100000 in
theorem contract (H : Type) (enc : TypeId × Value → H) (W : World) (base : Nat) (args : Array Value) (ds gs : List (DataW H)) (before : List MemPlace)
    (hval : ∀ (j : Nat) t v, Tryd.f5.params[j]? = some t → args[j]? = some v → Value.okWide Tryd.prog W .any base t v)
    (hW : DataW.Whole enc Tryd.prog Tryd.f5.params.toList Rows.treeKidsSpec.vars false W args.toList ds gs before)
    (hwt : (DataW.weightsEach Tryd.prog (Tryd.f5.params.toList ++ Rows.treeKidsSpec.plain.varTypes Tryd.prog) (ds ++ gs)).all (· ≤ reachBytes) = true) :
    Calls Tryd.prog 5 args W fun e W' => ∃ v, e = .returned v ∧ Rows.treeKidsSpec.post enc Tryd.prog Tryd.f5 false true false false W args v W' := by
  have hwa : ∀ {j : Nat} {t : TypeId} {d : DataW H}, (Tryd.f5.params.toList ++ Rows.treeKidsSpec.plain.varTypes Tryd.prog)[j]? = some t → (ds ++ gs)[j]? = some d → ∀ x ∈ d.weights Tryd.prog t, x ≤ reachBytes := fun ht hd x hx => by
    have := List.all_eq_true.1 hwt x (DataW.weights_mem_each ht hd x hx)
    simpa using this
  have hW' := hW
  obtain ⟨p, q, hA0, hV, rfl, hfz, hnd⟩ := hW
  have hA : DataW.TrodAll enc Tryd.prog W 0 (fun _ => true) true Tryd.f5.params.toList args.toList ds p := hA0
  rw [Tryd.params5] at hA hval hwa
  obtain ⟨v0, vs0, d0, ds0, p0, q0, hargs, rfl, rfl, h0, r0⟩ := trodAll_cons hA
  obtain ⟨rfl, rfl, rfl⟩ := trodAll_nil r0
  obtain rfl : args = #[v0] := by cases args; simp_all
  obtain ⟨rfl, rfl⟩ := trodVars_none hV
  have k0 := h0
  have lt0 : ∀ x ∈ p0, x.block < W.heap.size := by obtain ⟨m, hm⟩ := k0; exact DataW.trod_lt m _ _ _ hm
  obtain ⟨as0, hr0, hR0⟩ := rv_open (rv28) h0 (hwa (j := 0) rfl rfl)
  obtain ⟨a0, len0, cap0, rfl⟩ := okWide_slice Tryd.underlying28 (hval 0 28 v0 rfl rfl)
  obtain ⟨l0, x0, rfl, hs0, hn0⟩ := hR0

  have hvr : VRs (fun _ => none) (memOf W) [x0] #[_].toList := (.cons _ _ _ _ (by cases hr0 with | cons _ _ _ _ hv hk => exact hv) .nil)
  have hfin := treeKids_fin (orc := table tabN) butN Wf.empty ho64 txK ho65 ho8 l0 x0 (hs0 _) hn0
  refine (law_calls mixed namesOk (fun w0 => table_sound tabNOk) hvr hfin (fun r H' h => h.1)).mono fun e W' ⟨he, bel⟩ => ?_
  subst he
  exact ⟨_, rfl, _, _, _, [], _, [], hW', trodAll_mk1 (shut_bool Tryd.underlying4 _), (trodAll_cons_mk (Below.trod laidOut (by kernel_rfl) (of_decide_eq_true (by kernel_rfl)) k0 bel lt0) trodAll_mk0), rfl, bel.frame _, fun h => by cases h⟩
theorem door_met (os : Os) (args : Array Value) : laidMetH Tryd.prog Rows.treeKidsRow.laid ((World.doorLaid Tryd.prog 400 os).forCall (fun _ _ => 0) ⟨#[], args, []⟩).memory :=
  laidMetH_of_parts3 (fuel := 8) (laidMet_of_run' 8 (by kernel_rfl) (by kernel_rfl)) (by kernel_rfl) (by kernel_rfl)
set_option maxRecDepth 100000 in
theorem lifted (os : Os) (started : os.Started) (H : Type) (enc : TypeId × Value → H) :
    ReturnsInHanded {} Tryd.checked os 5 .any (fun w args => (Rows.treeKidsSpec.pre enc Tryd.prog Tryd.f5 [] false w args ∧ laidMetH Tryd.prog Rows.treeKidsRow.laid w) ∧ sizedMet enc Tryd.prog Tryd.f5 (OpenSpec.ofChange Rows.treeKidsSpec) false w args)
      (Rows.treeKidsSpec.post enc Tryd.prog Tryd.f5 false true false false) := by
  refine returnsInHanded_of_change_and (C := Tryd.checked) (X := fun w _ => laidMetH Tryd.prog Rows.treeKidsRow.laid w) (fun _ _ _ hh h => h.of_heap hh) own started (by kernel_rfl) Tryd.func5
    (ChangeSpec.witness_shaped (enc := enc) (C := Tryd.checked) (os := os) (X := fun w _ => laidMetH Tryd.prog Rows.treeKidsRow.laid w) false (World.doorLaid Tryd.prog 400 os) #[.slice none 0 0] 8 rfl (World.shaped_of_RefB (by kernel_rfl) (by kernel_rfl)) (by kernel_rfl) (by kernel_rfl) (by kernel_rfl) (door_met os _)) ?_
  intro W base args ds gs before hval hW _ hwt _ _
  exact contract H enc W base args ds gs before hval hW hwt
theorem proved : Rows.TreeKidsSaid :=
  OpenClaim.holds_of_wide 5 Tryd.f5 rfl rfl rfl rfl rfl rfl rfl ⟨rfl, rfl, rfl, rfl, rfl⟩ rfl rfl rfl rfl rfl (by kernel_rfl) Tryd.func5 (by kernel_rfl)
    (of_decide_eq_true (by kernel_rfl)) (by unfold Func.isWrapper; first | (rw [if_pos (by decide +kernel)]; kernel_rfl) | (rw [if_neg (by decide +kernel)]; exact ⟨rfl, rfl⟩))
    (fun os started H enc _ => lifted os started H enc)
end Go.Proofs.YtpdphdbphhaekaaDoor.treeKids
namespace Go.Proofs.YtpdphdbphhaekaaDoor
theorem treeKids_holds : Rows.TreeKidsSaid := treeKids.proved
#print axioms treeKids_holds
end Go.Proofs.YtpdphdbphhaekaaDoor
