/-
  The row of ValueParts: its arguments opened as values of the abstract machine, on which it answers true.
-/
import Derived.Test.YtenfjdkeikjhlaaRows
import Derived.Test.YtenfjdkeikjhlaaLParts
import Derived.Test.YtenfjdkeikjhlaaReadIc
import Derived.Test.YtenfjdkeikjhlaaShownT
import Derived.Test.YtenfjdkeikjhlaaVj
import Derived.WalkKit
import Derived.ProofKit
import Derived.OpenShut
import Derived.ShutString
import Derived.ChangeOld
import Derived.Below
import Derived.SizedLaws
import Derived.JoinedCond
set_option linter.unusedVariables false
set_option linter.unusedSimpArgs false
namespace Go.Proofs.Ytenfjdkeikjhlaa.valueParts
open Go.ChangeShapes Go.WideShapes Go.ChangeAt Go.RowKit Go.VI Go.Proofs.Ytenfjdkeikjhlaa.Vs
open Go.ChangeMaps (open_string shut_string)
theorem own : ownKnob Try.prog.godebug = none := by kernel_rfl
theorem laidOut : laidOutB Try.prog = true := by kernel_rfl
set_option maxRecDepth 100000 in
theorem contract (H : Type) (enc : TypeId × Value → H) (W : World) (base : Nat) (args : Array Value) (ds gs : List (DataW H)) (before : List MemPlace)
    (hval : ∀ (j : Nat) t v, Try.f7.params[j]? = some t → args[j]? = some v → Value.okWide Try.prog W .any base t v)
    (hW : DataW.Whole enc Try.prog Try.f7.params.toList Rows.valuePartsSpec.vars false W args.toList ds gs before)
    (hwt : (DataW.weightsEach Try.prog (Try.f7.params.toList ++ Rows.valuePartsSpec.plain.varTypes Try.prog) (ds ++ gs)).all (· ≤ reachBytes) = true) :
    Calls Try.prog 7 args W fun e W' => ∃ v, e = .returned v ∧ Rows.valuePartsSpec.post enc Try.prog Try.f7 false true false false W args v W' := by
  have hwa : ∀ {j : Nat} {t : TypeId} {d : DataW H}, (Try.f7.params.toList ++ Rows.valuePartsSpec.plain.varTypes Try.prog)[j]? = some t → (ds ++ gs)[j]? = some d → ∀ x ∈ d.weights Try.prog t, x ≤ reachBytes := fun ht hd x hx => by
    have := List.all_eq_true.1 hwt x (DataW.weights_mem_each ht hd x hx)
    simpa using this
  have hW' := hW
  obtain ⟨p, q, hA0, hV, rfl, hfz, hnd⟩ := hW
  have hA : DataW.TrodAll enc Try.prog W 0 (fun _ => true) true Try.f7.params.toList args.toList ds p := hA0
  rw [Try.params7] at hA hval hwa
  obtain ⟨v0, vs0, d0, ds0, p0, q0, hargs, rfl, rfl, h0, r0⟩ := trodAll_cons hA
  obtain ⟨v1, vs1, d1, ds1, p1, q1, rfl, rfl, rfl, h1, r1⟩ := trodAll_cons r0
  obtain ⟨v2, vs2, d2, ds2, p2, q2, rfl, rfl, rfl, h2, r2⟩ := trodAll_cons r1
  obtain ⟨rfl, rfl, rfl⟩ := trodAll_nil r2
  obtain rfl : args = #[v0, v1, v2] := by cases args; simp_all
  obtain ⟨rfl, rfl⟩ := trodVars_none hV
  have k0 := h0
  have lt0 : ∀ x ∈ p0, x.block < W.heap.size := by obtain ⟨m, hm⟩ := k0; exact DataW.trod_lt m _ _ _ hm
  obtain ⟨as0, hr0, hR0⟩ := rv_open (rv24) h0 (hwa (j := 0) rfl rfl)
  obtain ⟨cs0, rfl, _⟩ : ∃ cs, v0 = .agg cs ∧ True := by have hq := (hval 0 24 v0 rfl rfl); unfold Value.okWide at hq; rw [Try.underlying24] at hq; obtain ⟨cs, h1, _⟩ := hq; exact ⟨cs, h1, trivial⟩
  have k1 := h1
  have lt1 : ∀ x ∈ p1, x.block < W.heap.size := by obtain ⟨m, hm⟩ := k1; exact DataW.trod_lt m _ _ _ hm
  obtain ⟨as1, hr1, hR1⟩ := rv_open (rv28c) h1 (hwa (j := 1) rfl rfl)
  obtain ⟨a1, len1, cap1, rfl⟩ := okWide_slice Try.underlying28 (hval 1 28 v1 rfl rfl)
  obtain ⟨l1, x1, rfl, hs1, hl1⟩ := hR1
  have k2 := h2
  have lt2 : ∀ x ∈ p2, x.block < W.heap.size := by obtain ⟨m, hm⟩ := k2; exact DataW.trod_lt m _ _ _ hm
  obtain ⟨as2, hr2, hR2⟩ := rv_open (rv24) h2 (hwa (j := 2) rfl rfl)
  obtain ⟨cs2, rfl, _⟩ : ∃ cs, v2 = .agg cs ∧ True := by have hq := (hval 2 24 v2 rfl rfl); unfold Value.okWide at hq; rw [Try.underlying24] at hq; obtain ⟨cs, h1, _⟩ := hq; exact ⟨cs, h1, trivial⟩
  obtain ⟨y0, hx0⟩ := hR0
  obtain ⟨y2, hx2⟩ := hR2
  obtain ⟨ka, na, la, sa, rfl, rfl, ha⟩ := (hx0 AH.empty).inv
  obtain ⟨kb, nb, lb, sb, rfl, rfl, hb⟩ := (hx2 AH.empty).inv
  have hvr : VRs (fun _ => none) (memOf W) [.agg _, x1, .agg _] #[_, _, _].toList := (.cons _ _ _ _ (show VR _ _ (.agg _) (.agg cs0) by have := VR.agg _ _ hr0; simpa [Value.cells] using this) (.cons _ _ _ _ (by cases hr1 with | cons _ _ _ _ hv hk => exact hv) (.cons _ _ _ _ (show VR _ _ (.agg _) (.agg cs2) by have := VR.agg _ _ hr2; simpa [Value.cells] using this) .nil)))
  have hfin := parts_fin (orc := table tabShown) butShown3 Wf.empty (fun H => rfl) ka na kb nb la lb sa sb x1 l1 ha hb (hs1 _) hl1
  refine (law_calls mixed namesOk (fun w0 => table_sound shownOk) hvr hfin (fun r H' h => h.1)).mono fun e W' ⟨he, bel⟩ => ?_
  subst he
  exact ⟨_, rfl, _, _, _, [], _, [], hW', trodAll_mk1 (shut_bool Try.underlying4 _), (trodAll_cons_mk (Below.trod laidOut (by kernel_rfl) (of_decide_eq_true (by kernel_rfl)) k0 bel lt0) (trodAll_cons_mk (Below.trod laidOut (by kernel_rfl) (of_decide_eq_true (by kernel_rfl)) k1 bel lt1) (trodAll_cons_mk (Below.trod laidOut (by kernel_rfl) (of_decide_eq_true (by kernel_rfl)) k2 bel lt2) trodAll_mk0))), rfl, bel.frame _, fun h => by cases h⟩
set_option maxRecDepth 100000 in
theorem lifted (os : Os) (started : os.Started) (H : Type) (enc : TypeId × Value → H) :
    ReturnsInHanded {} Try.checked os 7 .any (Rows.valuePartsSpec.pre6 enc Try.prog Try.f7 Rows.valuePartsRow.domain false) (Rows.valuePartsSpec.post enc Try.prog Try.f7 false true false false) := by
  refine returnsInHanded_of_change_sized (C := Try.checked) own started (by kernel_rfl) Try.func7
    (ChangeSpec.witness6 (enc := enc) (C := Try.checked) false ⟨#[], #[.agg #[.int .i64 0, .int .i64 0, .slice none 0 0], .slice none 0 0, .agg #[.int .i64 0, .int .i64 0, .slice none 0 0]], []⟩ 8 (by kernel_rfl) (by kernel_rfl) (by kernel_rfl) (by kernel_rfl)) ?_
  intro W base args ds gs before hval hW _ hwt _
  exact contract H enc W base args ds gs before hval hW hwt
theorem proved : Rows.ValuePartsSaid :=
  OpenClaim.holds_of_wide 7 Try.f7 rfl rfl rfl rfl rfl rfl rfl ⟨rfl, rfl, rfl, rfl, rfl⟩ rfl rfl rfl rfl rfl (by kernel_rfl) Try.func7 (by kernel_rfl)
    (of_decide_eq_true (by kernel_rfl)) (by unfold Func.isWrapper; first | (rw [if_pos (by decide +kernel)]; kernel_rfl) | (rw [if_neg (by decide +kernel)]; exact ⟨rfl, rfl⟩))
    (fun os started H enc _ => lifted os started H enc)
end Go.Proofs.Ytenfjdkeikjhlaa.valueParts
namespace Go.Proofs.Ytenfjdkeikjhlaa
theorem valueParts_holds : Rows.ValuePartsSaid := valueParts.proved
#print axioms valueParts_holds
end Go.Proofs.Ytenfjdkeikjhlaa
