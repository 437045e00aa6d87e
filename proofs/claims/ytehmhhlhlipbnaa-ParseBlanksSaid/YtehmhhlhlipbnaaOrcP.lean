/-
  What is answered at once: the examples, and the scanner's texts; try, by its own oracle.
-/
import Derived.Test.YtehmhhlhlipbnaaTa
import Derived.Test.YtehmhhlhlipbnaaParse12
set_option autoImplicit false
set_option linter.unusedVariables false
namespace Go.Proofs.Ytehmhhlhlipbnaa.Vs
open Go.VI Go.Proofs
def signsL : List (List UInt8) := [[40], [41], [91], [93], [123], [125], [44], [59], [58], [46], [61], [61, 61], [33, 61], [60], [60, 61], [62], [62, 61], [43], [45], [42], [47], [37], [38, 38], [124, 124], [33], [60, 45], [60, 45, 61]]
def wordsL : List (List UInt8) := [[97, 114, 114, 97, 121], [98, 101, 103, 105, 110], [98, 111, 111, 108], [99, 97, 115, 101], [99, 104, 97, 110], [101, 108, 115, 101], [102, 97, 108, 115, 101], [102, 105, 108, 108], [105, 102], [105, 110, 116], [108, 101, 110], [109, 97, 107, 101], [111, 102], [112, 114, 111, 103], [114, 101, 116, 117, 114, 110], [115, 101, 108, 101, 99, 116], [116, 114, 117, 101], [116, 121, 112, 101], [118, 97, 108], [118, 97, 114], [119, 104, 105, 108, 101]]
/-- the text of a kind of token -/
def txK (k : Nat) : List UInt8 := if 10 ≤ k ∧ k < 31 then wordsL.getD (k - 10) [] else if 40 ≤ k ∧ k < 67 then signsL.getD (k - 40) [] else []
def sgA : AV := .agg (signsL.map AV.str)
def tabSigns : List Row := [⟨81, [], sgA⟩]
def tabTexts : List Row := (List.range 67).map fun (k : Nat) => ⟨69, [.int .i64 (k : Int)], .str (txK k)⟩
def tabST : List Row := tabSigns ++ tabTexts
set_option maxRecDepth 100000 in
theorem signsOk : TableOk Try.prog tabSigns := table_of mixed namesOk (fun _ => noOrc_sound) (n := 200) (by kernel_rfl)
set_option maxRecDepth 100000 in
theorem textsOk : TableOk Try.prog tabTexts := table_of mixed namesOk (fun _ => table_sound signsOk) (n := 200) (by kernel_rfl)
theorem stOk : TableOk Try.prog tabST := signsOk.append textsOk
/-- try, with so much fuel -/
noncomputable def orcS : CallF := bothA (table tabST) (tryN Try.prog Try.f21 Try.f29 (bodyOf Try.f21) (bodyOf Try.f29) 5 (table tabST) 21 29 200)
theorem orcS_sound (w0 : World) : CallSound Try.prog w0 orcS :=
  bothA_sound (table_sound stOk) (tryN_sound mixed namesOk (table_sound stOk) Try.func21 rfl Try.func29 rfl rec29 200)
def tabShown : List Row := [⟨7, [], .bool true⟩]
set_option maxRecDepth 100000 in
theorem shownOk : TableOk Try.prog tabShown := table_of mixed namesOk orcS_sound (n := 200) (by kernel_rfl)
def tabN : List Row := tabShown ++ tabST
theorem tabNOk : TableOk Try.prog tabN := shownOk.append stOk
theorem lookT_none {f : Nat} {args : List AV} : ∀ {t : List Row}, (t.all fun r => !Nat.beq r.f f) = true → lookT f args t = none
  | [], _ => rfl
  | r :: t, h => by
    simp only [List.all_cons, Bool.and_eq_true, Bool.not_eq_true'] at h
    simp only [lookT, h.1, Bool.false_and]
    exact lookT_none h.2
theorem notIn (f : Nat) (hf : f ≠ 7 ∧ f ≠ 69 ∧ f ≠ 81) (a : List AV) (H : AH) : table tabN f a H = none := by
  have h : (tabN.all fun r => !Nat.beq r.f f) = true := by
    rw [List.all_eq_true]
    intro r hr
    have hm : r.f = 7 ∨ r.f = 81 ∨ r.f = 69 := by
      simp only [tabN, tabShown, tabST, tabSigns, tabTexts, List.mem_append, List.mem_singleton, List.mem_map] at hr
      rcases hr with rfl | rfl | ⟨k, _, rfl⟩
      · exact .inl rfl
      · exact .inr (.inl rfl)
      · exact .inr (.inr rfl)
    simp only [Bool.not_eq_true']
    cases hq : Nat.beq r.f f with
    | false => rfl
    | true => have := Nat.eq_of_beq_eq_true hq; omega
  simp only [table, lookT_none h]
theorem butT : NoOrcBut [7, 21, 69, 81] (table tabN) := by
  intro f hf a H
  simp only [List.contains_cons, List.contains_nil, Bool.or_false, Bool.or_eq_false_iff, beq_eq_false_iff_ne] at hf
  exact notIn f (by omega) a H
theorem t7 : ∀ H, table tabN 7 [] H = some (.ret (.bool true), H) := fun H => rfl
theorem t81 : ∃ sg, ∀ H, table tabN 81 [] H = some (.ret sg, H) := ⟨sgA, fun H => rfl⟩
theorem texts_at : ((List.range 67).all fun k => match lookT 69 [.int .i64 (k : Int)] tabN with | some v => AV.beq v (.str (txK k)) | none => false) = true := by kernel_rfl
theorem t69 : ∀ k : Nat, k < 67 → ∀ H, table tabN 69 [.int .i64 (k : Int)] H = some (.ret (.str (txK k)), H) := by
  intro k hk H
  have := List.all_eq_true.1 texts_at k (List.mem_range.2 hk)
  cases hq : lookT 69 [.int .i64 (k : Int)] tabN with
  | none => rw [hq] at this; cases this
  | some v =>
    rw [hq] at this
    have hv := AV.beq_eq _ _ this
    subst hv
    simp only [table, hq]
/-- the laws' oracle -/
noncomputable def orcN : CallF := orcT (table tabN)
theorem orcN_sound (w0 : World) : CallSound Try.prog w0 orcN :=
  bothA_sound (table_sound tabNOk) (tryA_sound mixed namesOk (table_sound tabNOk) Try.func21 rfl Try.func29 rfl rec29)
theorem butN : NoOrcBut [7, 21, 69, 81] orcN := orcT_no butT
theorem ho7 : ∀ H, orcN 7 [] H = some (.ret (.bool true), H) := fun H => orcT_l (t7 H)
theorem ho81 : ∃ sg, ∀ H, orcN 81 [] H = some (.ret sg, H) := ⟨sgA, fun H => orcT_l rfl⟩
theorem ho69 : ∀ k : Nat, k < 67 → ∀ H, orcN 69 [.int .i64 (k : Int)] H = some (.ret (.str (txK k)), H) := fun k hk H => orcT_l (t69 k hk H)
theorem tryN_ok : TryOk orcN txK := orcT_try butT (fun a H => notIn 21 (by decide) a H) t81 txK t69
end Go.Proofs.Ytehmhhlhlipbnaa.Vs
