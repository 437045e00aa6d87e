/-
  The row of ValueTells: its arguments opened as values of the abstract machine, on which it answers true.
-/
import Derived.Test.YtenfjdkeikjhlaaRows
import Derived.Test.YtenfjdkeikjhlaaLTells
import Derived.Test.YtenfjdkeikjhlaaReadV
import Derived.Test.YtenfjdkeikjhlaaOrcT
import Derived.Test.YtenfjdkeikjhlaaVj
import Derived.WalkKit
import Derived.ProofKit
import Derived.OpenShut
import Derived.ShutString
import Derived.ChangeOld
import Derived.Below
import Derived.SizedLaws
import Derived.JoinedCond
set_option linter.unusedVariables false
set_option linter.unusedSimpArgs false
namespace Go.Proofs.Ytenfjdkeikjhlaa.valueTells
open Go.ChangeShapes Go.WideShapes Go.ChangeAt Go.RowKit Go.VI Go.Proofs.Ytenfjdkeikjhlaa.Vs
open Go.ChangeMaps (open_string shut_string)
theorem own : ownKnob Try.prog.godebug = none := by kernel_rfl
theorem laidOut : laidOutB Try.prog = true := by kernel_rfl
set_option maxRecDepth 100000 in
theorem contract (H : Type) (enc : TypeId × Value → H) (W : World) (base : Nat) (args : Array Value) (ds gs : List (DataW H)) (before : List MemPlace)
    (hval : ∀ (j : Nat) t v, Try.f3.params[j]? = some t → args[j]? = some v → Value.okWide Try.prog W .any base t v)
    (hW : DataW.Whole enc Try.prog Try.f3.params.toList Rows.valueTellsSpec.vars false W args.toList ds gs before)
    (hwt : (DataW.weightsEach Try.prog (Try.f3.params.toList ++ Rows.valueTellsSpec.plain.varTypes Try.prog) (ds ++ gs)).all (· ≤ reachBytes) = true) :
    Calls Try.prog 3 args W fun e W' => ∃ v, e = .returned v ∧ Rows.valueTellsSpec.post enc Try.prog Try.f3 false true false false W args v W' := by
  have hwa : ∀ {j : Nat} {t : TypeId} {d : DataW H}, (Try.f3.params.toList ++ Rows.valueTellsSpec.plain.varTypes Try.prog)[j]? = some t → (ds ++ gs)[j]? = some d → ∀ x ∈ d.weights Try.prog t, x ≤ reachBytes := fun ht hd x hx => by
    have := List.all_eq_true.1 hwt x (DataW.weights_mem_each ht hd x hx)
    simpa using this
  have hW' := hW
  obtain ⟨p, q, hA0, hV, rfl, hfz, hnd⟩ := hW
  have hA : DataW.TrodAll enc Try.prog W 0 (fun _ => true) true Try.f3.params.toList args.toList ds p := hA0
  rw [Try.params3] at hA hval hwa
  obtain ⟨v0, vs0, d0, ds0, p0, q0, hargs, rfl, rfl, h0, r0⟩ := trodAll_cons hA
  obtain ⟨v1, vs1, d1, ds1, p1, q1, rfl, rfl, rfl, h1, r1⟩ := trodAll_cons r0
  obtain ⟨v2, vs2, d2, ds2, p2, q2, rfl, rfl, rfl, h2, r2⟩ := trodAll_cons r1
  obtain ⟨rfl, rfl, rfl⟩ := trodAll_nil r2
  obtain rfl : args = #[v0, v1, v2] := by cases args; simp_all
  obtain ⟨rfl, rfl⟩ := trodVars_none hV
  have k0 := h0
  have lt0 : ∀ x ∈ p0, x.block < W.heap.size := by obtain ⟨m, hm⟩ := k0; exact DataW.trod_lt m _ _ _ hm
  obtain ⟨as0, hr0, hR0⟩ := rv_open (rv24) h0 (hwa (j := 0) rfl rfl)
  obtain ⟨cs0, rfl, _⟩ : ∃ cs, v0 = .agg cs ∧ True := by have hq := (hval 0 24 v0 rfl rfl); unfold Value.okWide at hq; rw [Try.underlying24] at hq; obtain ⟨cs, h1, _⟩ := hq; exact ⟨cs, h1, trivial⟩
  have k1 := h1
  have lt1 : ∀ x ∈ p1, x.block < W.heap.size := by obtain ⟨m, hm⟩ := k1; exact DataW.trod_lt m _ _ _ hm
  obtain ⟨as1, hr1, hR1⟩ := rv_open (rv24) h1 (hwa (j := 1) rfl rfl)
  obtain ⟨cs1, rfl, _⟩ : ∃ cs, v1 = .agg cs ∧ True := by have hq := (hval 1 24 v1 rfl rfl); unfold Value.okWide at hq; rw [Try.underlying24] at hq; obtain ⟨cs, h1, _⟩ := hq; exact ⟨cs, h1, trivial⟩
  obtain ⟨a2, rfl, rfl, rfl, w2⟩ := open_int Try.underlying3 (hval 2 3 v2 rfl rfl) h2
  obtain ⟨y0, hx0⟩ := hR0
  obtain ⟨y1, hx1⟩ := hR1
  obtain ⟨ka, na, la, sa, rfl, rfl, ha⟩ := (hx0 AH.empty).inv
  obtain ⟨kb, nb, lb, sb, rfl, rfl, hb⟩ := (hx1 AH.empty).inv
  have hvr : VRs (fun _ => none) (memOf W) [.agg _, .agg _, .int .i64 a2] #[_, _, _].toList := (.cons _ _ _ _ (show VR _ _ (.agg _) (.agg cs0) by have := VR.agg _ _ hr0; simpa [Value.cells] using this) (.cons _ _ _ _ (show VR _ _ (.agg _) (.agg cs1) by have := VR.agg _ _ hr1; simpa [Value.cells] using this) (.cons _ _ _ _ (.int _ _) .nil)))
  have hfin := tells_fin (orc := orcT) butT Wf.empty orcT35 orcT36 orcT9 ka na kb nb a2 la lb sa sb ha hb
  refine (law_calls mixed namesOk (orcT_sound) hvr hfin (fun r H' h => h.1)).mono fun e W' ⟨he, bel⟩ => ?_
  subst he
  exact ⟨_, rfl, _, _, _, [], _, [], hW', trodAll_mk1 (shut_bool Try.underlying4 _), (trodAll_cons_mk (Below.trod laidOut (by kernel_rfl) (of_decide_eq_true (by kernel_rfl)) k0 bel lt0) (trodAll_cons_mk (Below.trod laidOut (by kernel_rfl) (of_decide_eq_true (by kernel_rfl)) k1 bel lt1) (trodAll_cons_mk (shut_int Try.underlying3 w2) trodAll_mk0))), rfl, bel.frame _, fun h => by cases h⟩
set_option maxRecDepth 100000 in
theorem lifted (os : Os) (started : os.Started) (H : Type) (enc : TypeId × Value → H) :
    ReturnsInHanded {} Try.checked os 3 .any (Rows.valueTellsSpec.pre6 enc Try.prog Try.f3 Rows.valueTellsRow.domain false) (Rows.valueTellsSpec.post enc Try.prog Try.f3 false true false false) := by
  refine returnsInHanded_of_change_sized (C := Try.checked) own started (by kernel_rfl) Try.func3
    (ChangeSpec.witness6 (enc := enc) (C := Try.checked) false ⟨#[], #[.agg #[.int .i64 0, .int .i64 0, .slice none 0 0], .agg #[.int .i64 0, .int .i64 0, .slice none 0 0], .int .i64 0], []⟩ 8 (by kernel_rfl) (by kernel_rfl) (by kernel_rfl) (by kernel_rfl)) ?_
  intro W base args ds gs before hval hW _ hwt _
  exact contract H enc W base args ds gs before hval hW hwt
theorem proved : Rows.ValueTellsSaid :=
  OpenClaim.holds_of_wide 3 Try.f3 rfl rfl rfl rfl rfl rfl rfl ⟨rfl, rfl, rfl, rfl, rfl⟩ rfl rfl rfl rfl rfl (by kernel_rfl) Try.func3 (by kernel_rfl)
    (of_decide_eq_true (by kernel_rfl)) (by unfold Func.isWrapper; first | (rw [if_pos (by decide +kernel)]; kernel_rfl) | (rw [if_neg (by decide +kernel)]; exact ⟨rfl, rfl⟩))
    (fun os started H enc _ => lifted os started H enc)
end Go.Proofs.Ytenfjdkeikjhlaa.valueTells
namespace Go.Proofs.Ytenfjdkeikjhlaa
theorem valueTells_holds : Rows.ValueTellsSaid := valueTells.proved
#print axioms valueTells_holds
end Go.Proofs.Ytenfjdkeikjhlaa
