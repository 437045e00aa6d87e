/-
  How tightly a node binds: the program says what the document says.
-/
import Derived.Test.YtpdphdbphhaekaaDoorPTreeLevelsx4
set_option autoImplicit false
set_option linter.unusedVariables false
set_option linter.unusedSimpArgs false
namespace Go.Proofs.YtpdphdbphhaekaaDoor.PTreeLevels
open Go.RowKit Go.Proofs.YtpdphdbphhaekaaDoorW.PrintWords
theorem level_eq (a0 a1 : Int) (l : List Int) (s : ByteArray) (a4 : Int) : ∃ r, tree_Level.f 5 a0 a1 l s a4 = some r ∧ squintref02_Level.f 5 a0 a1 l s a4 = some r := by
  by_cases h22 : a0 = 22
  · subst h22
    simp only [tree_Level.f, squintref02_Level.f, if_true]
    by_cases e11 : a4 = 11
    · subst e11; exact ⟨1, by simp, by simp⟩
    by_cases e12 : a4 = 12
    · subst e12; exact ⟨2, by simp, by simp⟩
    by_cases hc : a4 ≥ 21 ∧ a4 ≤ 26
    · refine ⟨3, ?_, ?_⟩
      · have : a4 = 21 ∨ a4 = 22 ∨ a4 = 23 ∨ a4 = 24 ∨ a4 = 25 ∨ a4 = 26 := by omega
        rcases this with h | h | h | h | h | h <;> subst h <;> rfl
      · rw [if_neg e11, if_neg e12, if_pos hc.1, decide_eq_true hc.2]; rfl
    · have hl : (if a4 = 31 ∨ a4 = 32 then (4 : Int) else if a4 = 41 ∨ a4 = 42 ∨ a4 = 43 then 5 else 0) = (if a4 = 31 ∨ a4 = 32 then (4 : Int) else if a4 = 41 ∨ a4 = 42 ∨ a4 = 43 then 5 else 0) := rfl
      refine ⟨(if a4 = 31 ∨ a4 = 32 then (4 : Int) else if a4 = 41 ∨ a4 = 42 ∨ a4 = 43 then 5 else 0), ?_, ?_⟩
      · rw [if_neg e11, if_neg e12, if_neg (by omega), if_neg (by omega), if_neg (by omega), if_neg (by omega), if_neg (by omega)]
        have n26 : (a4 == 26) = false := beq_eq_false_iff_ne.mpr (by omega)
        rw [n26]
        simp only [tree_Level.j0, tree_Level.j1, tree_Level.j2]
        by_cases e31 : a4 = 31
        · subst e31; rfl
        by_cases e32 : a4 = 32
        · subst e32; rfl
        by_cases e41 : a4 = 41
        · subst e41; rfl
        by_cases e42 : a4 = 42
        · subst e42; rfl
        by_cases e43 : a4 = 43
        · subst e43; rfl
        simp [e31, e32, e41, e42, e43]
      · have : (if a4 ≥ 21 then (squintref02_Level.j0 5 (decide (a4 ≤ 26)) 22 a1 l s a4) else (squintref02_Level.j0 5 false 22 a1 l s a4)) = squintref02_Level.j0 5 false 22 a1 l s a4 := by
          by_cases h : a4 ≥ 21
          · rw [if_pos h, decide_eq_false (by omega)]
          · rw [if_neg h]
        rw [if_neg e11, if_neg e12, this]
        simp only [squintref02_Level.j0, squintref02_Level.j1]
        by_cases e31 : a4 = 31
        · subst e31; rfl
        by_cases e32 : a4 = 32
        · subst e32; rfl
        by_cases e41 : a4 = 41
        · subst e41; rfl
        by_cases e42 : a4 = 42
        · subst e42; rfl
        by_cases e43 : a4 = 43
        · subst e43; rfl
        have n32 : (a4 == 32) = false := beq_eq_false_iff_ne.mpr e32
        rw [if_neg (by simp), if_neg e31, n32]
        by_cases h41 : a4 ≥ 41
        · simp [e31, e32, e41, e42, e43, h41, show ¬ a4 ≤ 43 by omega]
        · simp [e31, e32, e41, e42, e43, h41]
  · by_cases h21 : a0 = 21
    · subst h21
      by_cases h1 : a4 ≥ 1
      · by_cases h3 : a4 ≤ 3
        · exact ⟨6, by simp [tree_Level.f, tree_Level.j3, h1, h3], by simp [squintref02_Level.f, h1, h3]⟩
        · exact ⟨0, by simp [tree_Level.f, tree_Level.j3, h1, h3], by simp [squintref02_Level.f, h1, h3]⟩
      · exact ⟨0, by simp [tree_Level.f, tree_Level.j3, h1], by simp [squintref02_Level.f, h1]⟩
    · by_cases h23 : a0 = 23
      · subst h23; exact ⟨7, rfl, rfl⟩
      by_cases h24 : a0 = 24
      · subst h24; exact ⟨7, rfl, rfl⟩
      by_cases h25 : a0 = 25
      · subst h25; exact ⟨7, rfl, rfl⟩
      have n25 : (a0 == 25) = false := beq_eq_false_iff_ne.mpr h25
      have hr : squintref02_Level.f 5 a0 a1 l s a4 = squintref02_Level.j2 5 false a0 a1 l s a4 := by
        unfold squintref02_Level.f
        rw [if_neg h22, if_neg h21]
        by_cases h : a0 ≥ 23
        · rw [if_pos h, decide_eq_false (by omega)]
        · rw [if_neg h]
      have ht : tree_Level.f 5 a0 a1 l s a4 = tree_Level.j4 5 false a0 a1 l s a4 := by
        unfold tree_Level.f
        rw [if_neg h22, if_neg h21, if_neg h23, if_neg h24, n25]
      rw [hr, ht]
      by_cases h11 : a0 ≥ 11
      · by_cases hx : a0 ≤ 25
        · exact ⟨8, by simp [tree_Level.j4, tree_is.f, h11, hx], by simp [squintref02_Level.j2, squintref02_IsExpr.f, h11, hx]⟩
        · exact ⟨0, by simp [tree_Level.j4, tree_is.f, h11, hx], by simp [squintref02_Level.j2, squintref02_IsExpr.f, h11, hx]⟩
      · exact ⟨0, by simp [tree_Level.j4, tree_is.f, h11], by simp [squintref02_Level.j2, squintref02_IsExpr.f, h11]⟩

theorem pure (a0 a1 : Int) (l : List Int) (s : ByteArray) (a4 : Int) : ∃ k, squintlaw02_TreeLevels.f k a0 a1 l s a4 = some true := by
  obtain ⟨r, h1, h2⟩ := level_eq a0 a1 l s a4
  refine ⟨5, ?_⟩
  simp [squintlaw02_TreeLevels.f, squintlaw02_shown.f, h1, h2]
end Go.Proofs.YtpdphdbphhaekaaDoor.PTreeLevels
