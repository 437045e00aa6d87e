/-
  TreeLevels: its argument opened, the printed walk, the plain law.
-/
import Derived.Test.YtpdphdbphhaekaaDoorRows
import Derived.Test.YtpdphdbphhaekaaDoorPureTreeLevels
import Derived.Test.YtpdphdbphhaekaaDoorOpn
import Derived.ProofKit
import Derived.LaidMore
import Derived.OpenShut
set_option autoImplicit false
set_option linter.unusedVariables false
namespace Go.Proofs.YtpdphdbphhaekaaDoor.Lv
open Go.ChangeShapes Go.WideShapes Go.ChangeAt Go.RowKit Go.Proofs.YtpdphdbphhaekaaDoor.Opn Go.Proofs.YtpdphdbphhaekaaDoorW.PrintWords
abbrev kN := Kd.pair (Kd.int .i64) (Kd.pair (Kd.int .i64) (Kd.pair (Kd.slice 3 (Kd.int .i64)) (Kd.pair Kd.string (Kd.int .i64))))
theorem op22 : ∀ n, ReadsAs Tryd.prog 22 (Kd.slice 3 (Kd.int .i64)) (fun l => (l.map fun _ => 1).sum + 1) (fun l => ∀ y ∈ l, (Lit.int .i64 y).wf = true) n :=
  op_slices Tryd.underlying22 (by kernel_rfl) (op_int Tryd.underlying3)
theorem opN (n : Nat) : ReadsAs Tryd.prog 24 kN (fun x => (1 + (1 + (((x.2.2.1.map fun _ => 1).sum + 1) + ((x.2.2.2.1.size + 1) + 1)))) + 1)
    (fun x => (Lit.int .i64 x.1).wf = true ∧ ((Lit.int .i64 x.2.1).wf = true ∧ ((∀ y ∈ x.2.2.1, (Lit.int .i64 y).wf = true) ∧ (x.2.2.2.1.size ≤ maxLen ∧ (Lit.int .i64 x.2.2.2.2).wf = true)))) n :=
  op_structs Tryd.underlying24 (by kernel_rfl) (fun n => opF_cons _ _ (by kernel_rfl) (op_int Tryd.underlying3 n) (opF_cons _ _ (by kernel_rfl) (op_int Tryd.underlying3 n) (opF_cons _ _ (by kernel_rfl) (op22 n) (opF_cons _ _ (by kernel_rfl) (op_string Tryd.underlying9 n) (opF_one _ (by kernel_rfl) (op_int Tryd.underlying3 n)))))) n
theorem own : ownKnob Tryd.prog.godebug = none := by kernel_rfl
theorem laidOut : laidOutB Tryd.prog = true := by kernel_rfl
theorem door_met (os : Os) (args : Array Value) : laidMetH Tryd.prog Rows.treeLevelsRow.laid ((World.doorLaid Tryd.prog 400 os).forCall (fun _ _ => 0) ⟨#[], args, []⟩).memory :=
  laidMetH_of_parts3 (fuel := 8) (laidMet_of_run' 8 (by kernel_rfl) (by kernel_rfl)) (by kernel_rfl) (by kernel_rfl)
set_option maxRecDepth 100000 in
theorem lifted (os : Os) (started : os.Started) (H : Type) (enc : TypeId × Value → H) :
    ReturnsInHanded {} Tryd.checked os 3 .any (fun w args => (Rows.treeLevelsSpec.pre enc Tryd.prog Tryd.f3 [] false w args ∧ laidMetH Tryd.prog Rows.treeLevelsRow.laid w) ∧ sizedMet enc Tryd.prog Tryd.f3 (OpenSpec.ofChange Rows.treeLevelsSpec) false w args)
      (Rows.treeLevelsSpec.post enc Tryd.prog Tryd.f3 false true false false) := by
  refine returnsInHanded_of_change_and (C := Tryd.checked) (X := fun w _ => laidMetH Tryd.prog Rows.treeLevelsRow.laid w) (fun _ _ _ hh h => h.of_heap hh) own started (by kernel_rfl) Tryd.func3
    (ChangeSpec.witness_shaped (enc := enc) (C := Tryd.checked) (os := os) (X := fun w _ => laidMetH Tryd.prog Rows.treeLevelsRow.laid w) false (World.doorLaid Tryd.prog 400 os) #[.agg #[.int .i64 0, .int .i64 0, .slice none 0 0, .string ByteArray.empty, .int .i64 0]] 8 rfl (World.shaped_of_RefB (by kernel_rfl) (by kernel_rfl)) (by kernel_rfl) (by kernel_rfl) (by kernel_rfl) (door_met os _)) ?_
  intro W base args ds gs before hval0 hW _ _ hL _
  have hval : ∀ (j : Nat) t v, Tryd.f3.params[j]? = some t → args[j]? = some v → Value.okWide Tryd.prog W .any base t v := hval0
  have hW' := hW
  obtain ⟨p, q, hA0, hV, rfl, hfz, hnd⟩ := hW
  have hA : DataW.TrodAll enc Tryd.prog W 0 (fun _ => true) true Tryd.f3.params.toList args.toList ds p := hA0
  rw [Tryd.params3] at hA hval
  obtain ⟨v0, vs0, d0, ds0, p0, q0, hargs, rfl, rfl, h0, r0⟩ := trodAll_cons hA
  obtain ⟨rfl, rfl, rfl⟩ := trodAll_nil r0
  obtain rfl : args = #[v0] := by cases args; simp_all
  obtain ⟨rfl, rfl⟩ := trodVars_none hV
  have k0 := h0
  have lt0 : ∀ x ∈ p0, x.block < W.heap.size := by obtain ⟨m, hm⟩ := k0; exact DataW.trod_lt m _ _ _ hm
  obtain ⟨x, hK, hB, hG⟩ := open_st opN h0
  obtain ⟨c1, r1, hc, e1, c2, r2, hc2, e2, c3, r3, hc3, e3, c4, r4, hc4, e4, e5⟩ := hK
  obtain ⟨A, c, e3, hl, hC⟩ := e3
  have e1 : c1 = [.int .i64 x.1] := e1
  have e2 : c2 = [.int .i64 x.2.1] := e2
  have e4 : c4 = [.string x.2.2.2.1] := e4
  have e5 : r4 = [.int .i64 x.2.2.2.2] := e5
  subst e1 e2 e3 e4 e5 hc4 hc3 hc2
  obtain rfl := agg_of_cells hc
  clear hA0 hval0
  obtain ⟨k, hP⟩ := PTreeLevels.pure x.1 x.2.1 x.2.2.1 x.2.2.2.1 x.2.2.2.2
  refine (PTreeLevels.squintlaw02_TreeLevels.calls k x.1 x.2.1 A c x.2.2.1 x.2.2.2.1 x.2.2.2.2 true W hC hl hP).mono fun e W' ⟨he, bel⟩ => ?_
  subst he
  exact ⟨_, rfl, _, _, _, [], _, [], hW', trodAll_mk1 (shut_bool Tryd.underlying4 _), (trodAll_cons_mk (Below.trod laidOut (by kernel_rfl) (of_decide_eq_true (by kernel_rfl)) k0 bel lt0) trodAll_mk0), rfl, bel.frame _, fun h => by cases h⟩
theorem treeLevels_holds : Rows.TreeLevelsSaid :=
  OpenClaim.holds_of_wide 3 Tryd.f3 rfl rfl rfl rfl rfl rfl rfl ⟨rfl, rfl, rfl, rfl, rfl⟩ rfl rfl rfl rfl rfl (by kernel_rfl) Tryd.func3 (by kernel_rfl)
    (of_decide_eq_true (by kernel_rfl)) (by unfold Func.isWrapper; first | (rw [if_pos (by decide +kernel)]; kernel_rfl) | (rw [if_neg (by decide +kernel)]; exact ⟨rfl, rfl⟩))
    (fun os started H enc _ => lifted os started H enc)
#print axioms treeLevels_holds
end Go.Proofs.YtpdphdbphhaekaaDoor.Lv
