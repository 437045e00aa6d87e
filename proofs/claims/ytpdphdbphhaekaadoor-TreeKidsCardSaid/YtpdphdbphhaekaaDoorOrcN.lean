/-
  What is answered at once: the examples, and the scanner's texts.
-/
import Derived.Test.YtpdphdbphhaekaaDoorSh
import Derived.Test.YtpdphdbphhaekaaDoorVj
set_option autoImplicit false
set_option linter.unusedVariables false
namespace Go.Proofs.YtpdphdbphhaekaaDoor.Vs
open Go.VI Go.Proofs
def signsL : List (List UInt8) := [[40], [41], [91], [93], [123], [125], [44], [59], [58], [46], [61], [61, 61], [33, 61], [60], [60, 61], [62], [62, 61], [43], [45], [42], [47], [37], [38, 38], [124, 124], [33], [60, 45], [60, 45, 61]]
def wordsL : List (List UInt8) := [[97, 114, 114, 97, 121], [98, 101, 103, 105, 110], [98, 111, 111, 108], [99, 97, 115, 101], [99, 104, 97, 110], [101, 108, 115, 101], [102, 97, 108, 115, 101], [102, 105, 108, 108], [105, 102], [105, 110, 116], [108, 101, 110], [109, 97, 107, 101], [111, 102], [112, 114, 111, 103], [114, 101, 116, 117, 114, 110], [115, 101, 108, 101, 99, 116], [116, 114, 117, 101], [116, 121, 112, 101], [118, 97, 108], [118, 97, 114], [119, 104, 105, 108, 101]]
/-- the text of a kind of token -/
def txK (k : Nat) : List UInt8 := if 10 ≤ k ∧ k < 31 then wordsL.getD (k - 10) [] else if 40 ≤ k ∧ k < 67 then signsL.getD (k - 40) [] else []
def sgA : AV := .agg (signsL.map AV.str)
def tabShown : List Row := [⟨8, [], .bool true⟩]
def tabSigns : List Row := [⟨64, [], sgA⟩]
def tabTexts : List Row := (List.range 67).map fun (k : Nat) => ⟨65, [.int .i64 (k : Int)], .str (txK k)⟩
def tabN : List Row := tabShown ++ (tabSigns ++ tabTexts)
set_option maxRecDepth 100000 in
theorem shownOk : TableOk Tryd.prog tabShown := table_of mixed namesOk orcSound (n := 200) (by kernel_rfl)
set_option maxRecDepth 100000 in
theorem signsOk : TableOk Tryd.prog tabSigns := table_of mixed namesOk (fun _ => noOrc_sound) (n := 200) (by kernel_rfl)
set_option maxRecDepth 100000 in
theorem textsOk : TableOk Tryd.prog tabTexts := table_of mixed namesOk (fun _ => table_sound signsOk) (n := 200) (by kernel_rfl)
theorem tabNOk : TableOk Tryd.prog tabN := shownOk.append (signsOk.append textsOk)
theorem lookT_none {f : Nat} {args : List AV} : ∀ {t : List Row}, (t.all fun r => !Nat.beq r.f f) = true → lookT f args t = none
  | [], _ => rfl
  | r :: t, h => by
    simp only [List.all_cons, Bool.and_eq_true, Bool.not_eq_true'] at h
    simp only [lookT, h.1, Bool.false_and]
    exact lookT_none h.2
theorem butN : NoOrcBut [8, 64, 65] (table tabN) := by
  intro f hf a H
  have h : (tabN.all fun r => !Nat.beq r.f f) = true := by
    rw [List.all_eq_true]
    intro r hr
    have hm : r.f = 8 ∨ r.f = 64 ∨ r.f = 65 := by
      simp only [tabN, tabShown, tabSigns, tabTexts, List.mem_append, List.mem_singleton, List.mem_map] at hr
      rcases hr with rfl | rfl | ⟨k, _, rfl⟩
      · exact .inl rfl
      · exact .inr (.inl rfl)
      · exact .inr (.inr rfl)
    simp only [List.contains_cons, List.contains_nil, Bool.or_false, Bool.or_eq_false_iff, beq_eq_false_iff_ne] at hf
    simp only [Bool.not_eq_true']
    cases hq : Nat.beq r.f f with
    | false => rfl
    | true => have := Nat.eq_of_beq_eq_true hq; omega
  simp only [table, lookT_none h]
theorem ho8 : ∀ H, table tabN 8 [] H = some (.ret (.bool true), H) := fun H => rfl
theorem ho64 : ∃ sg, ∀ H, table tabN 64 [] H = some (.ret sg, H) := ⟨sgA, fun H => rfl⟩
theorem texts_at : ((List.range 67).all fun k => match lookT 65 [.int .i64 (k : Int)] tabN with | some v => AV.beq v (.str (txK k)) | none => false) = true := by kernel_rfl
theorem ho65 : ∀ k : Nat, k < 67 → ∀ H, table tabN 65 [.int .i64 (k : Int)] H = some (.ret (.str (txK k)), H) := by
  intro k hk H
  have := List.all_eq_true.1 texts_at k (List.mem_range.2 hk)
  cases hq : lookT 65 [.int .i64 (k : Int)] tabN with
  | none => rw [hq] at this; cases this
  | some v =>
    rw [hq] at this
    have hv := AV.beq_eq _ _ this
    subst hv
    simp only [table, hq]
end Go.Proofs.YtpdphdbphhaekaaDoor.Vs
