/-
  A sorted list made single rises; sort and compact as oracles.
-/
import Derived.Test.YtenfjdkeikjhlaaVjS
import Derived.Test.YtenfjdkeikjhlaaVjT
import Derived.Lib.SlicesCompact
set_option autoImplicit false
set_option linter.unusedVariables false
set_option linter.unusedSimpArgs false
namespace Go.VI
open Go.RowKit Go.Sort
theorem compact_upTo {zs : List Int} (hs : zs.Pairwise (· ≤ ·)) : ∀ m, m ≤ zs.length → Rise (Lib.compactUpTo zs.toArray m) ∧ (∀ q, q ∈ Lib.compactUpTo zs.toArray m ↔ q ∈ zs.take m) ∧ (Lib.compactUpTo zs.toArray m).length ≤ m ∧ (1 ≤ m → 1 ≤ (Lib.compactUpTo zs.toArray m).length)
  | 0, _ => by simp [Lib.compactUpTo, Rise]
  | m + 1, h => by
    obtain ⟨i1, i2, i3, i4⟩ := compact_upTo hs m (by omega)
    have hm : m < zs.length := by omega
    have e0 : zs.toArray[m]! = zs[m] := by rw [getElem!_pos _ _ (by simpa using hm)]; simp
    have ht : zs.take (m + 1) = zs.take m ++ [zs[m]] := List.take_succ_eq_append_getElem hm
    rw [Lib.compactUpTo_succ, e0]
    cases hk : Lib.keeps zs.toArray m with
    | true =>
      simp only [if_true]
      have hlt : ∀ a, a ∈ Lib.compactUpTo zs.toArray m → a < zs[m] := fun a ha => by
        obtain ⟨j, hj, rfl⟩ := List.mem_iff_getElem.1 ((i2 a).1 ha)
        rw [List.length_take] at hj
        rw [List.getElem_take]
        have h1 : zs.toArray[m - 1]! = zs[m - 1]'(by omega) := by rw [getElem!_pos _ _ (by simp; omega)]; simp
        simp only [Lib.keeps, decide_eq_true_eq, e0, h1] at hk
        have hne : zs[m] ≠ zs[m - 1]'(by omega) := hk.elim (fun h => by omega) id
        have hle : zs[m - 1]'(by omega) ≤ zs[m] := List.pairwise_iff_getElem.1 hs (m - 1) m (by omega) hm (by omega)
        have hj1 : zs[j]'(by omega) ≤ zs[m - 1]'(by omega) := by
          rcases Nat.lt_or_eq_of_le (show j ≤ m - 1 by omega) with h | h
          · exact List.pairwise_iff_getElem.1 hs j (m - 1) (by omega) (by omega) h
          · subst h; exact Int.le_refl _
        omega
      refine ⟨List.pairwise_append.2 ⟨i1, List.pairwise_singleton _ _, fun a ha b hb => by rw [List.mem_singleton] at hb; subst hb; exact hlt a ha⟩, fun q => ?_, by simp; omega, fun _ => by simp⟩
      rw [ht, List.mem_append, List.mem_append, i2 q]
    | false =>
      simp only [Bool.false_eq_true, if_false, List.append_nil]
      have h1 : zs.toArray[m - 1]! = zs[m - 1]'(by omega) := by rw [getElem!_pos _ _ (by simp; omega)]; simp
      simp only [Lib.keeps, decide_eq_false_iff_not, e0, h1, not_or, ne_eq, Decidable.not_not] at hk
      refine ⟨i1, fun q => ?_, by omega, fun _ => i4 (by omega)⟩
      rw [ht, List.mem_append, i2 q, List.mem_singleton]
      refine ⟨.inl, fun h => h.elim id fun h => ?_⟩
      subst h
      rw [hk.2]
      exact List.mem_iff_getElem.2 ⟨m - 1, by rw [List.length_take]; omega, by rw [List.getElem_take]⟩
def srt (zs : List Int) : List Int := zs.mergeSort fun x y => decide (x ≤ y)
theorem srt_le (zs : List Int) : (srt zs).Pairwise (· ≤ ·) := (List.pairwise_mergeSort (fun a b c h1 h2 => by simp at *; omega) (fun a b => by simp; omega) zs).imp (fun h => by simpa using h)
theorem srt_len (zs : List Int) : (srt zs).length = zs.length := List.length_mergeSort zs
theorem srt_mem {zs : List Int} {q : Int} : q ∈ srt zs ↔ q ∈ zs := List.mem_mergeSort
def cmp (zs : List Int) : List Int := Lib.compact zs
theorem cmp_rise {zs : List Int} (hs : zs.Pairwise (· ≤ ·)) : Rise (cmp zs) ∧ (∀ q, q ∈ cmp zs ↔ q ∈ zs) ∧ (cmp zs).length ≤ zs.length ∧ (1 ≤ zs.length → 1 ≤ (cmp zs).length) := by
  have := compact_upTo hs zs.length (Nat.le_refl _)
  rw [List.take_length] at this
  exact this
theorem cmp_le (zs : List Int) : (cmp zs).length ≤ zs.length := by
  unfold cmp Lib.compact Lib.compactUpTo
  rw [List.length_map]
  exact Nat.le_trans (List.length_filter_le _ _) (by simp)
/-- the list made single, then zeros -/
def cmpz (zs : List Int) : List Int := cmp zs ++ List.replicate (zs.length - (cmp zs).length) 0
theorem cmpz_len (zs : List Int) : (cmpz zs).length = zs.length := by have := cmp_le zs; simp [cmpz]; omega
def sortA (fs : FuncId) : CallF := placeA fs srt (fun _ _ _ _ => .tup []) (.tup [])
def compactA (fs : FuncId) : CallF := placeA fs cmpz (fun l off cap zs => .sl l off (cmp zs).length cap) .nils
theorem sortA_sound {P : Program} {w0 : World} {fs : FuncId} (E : Enters P fs) (J : PlaceOk P fs srt (fun _ _ _ _ => .tuple #[]) (.tuple #[])) : CallSound P w0 (sortA fs) :=
  placeA_sound E J (.tup [] [] .nil) (fun β l c o off cap cap' zs h1 h2 => .tup [] [] .nil)
theorem compactA_sound {P : Program} {w0 : World} {fs : FuncId} (E : Enters P fs) (J : PlaceOk P fs cmpz (fun blk off cap zs => .slice (some ⟨blk, off, none⟩) (cmp zs).length cap) (.slice none 0 0)) : CallSound P w0 (compactA fs) :=
  placeA_sound E J .nils (fun β l c o off cap cap' zs h1 h2 => .sl _ _ _ _ _ _ _ h1 h2)
end Go.VI
