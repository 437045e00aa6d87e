/-
  What the document's Valid comes to, and that a table is like itself.
-/
import Derived.Test.YtapagakfckjhdaaValKindsSame
set_option autoImplicit false
set_option linter.unusedVariables false
set_option linter.unusedSimpArgs false
namespace Go.Proofs.Ytapagakfckjhdaa.PKindsSame
open Go.RowKit Go.Proofs.YtapagakfckjhdaaW.PrintWords

def refRest (l : List S43) (i : Nat) : Bool := (l.drop i).all (rightB l.length)
theorem refRest_succ {l : List S43} {i : Nat} (h : i < l.length) : refRest l i = (rightB l.length l[i] && refRest l (i + 1)) := by
  unfold refRest
  rw [List.drop_eq_getElem_cons h, List.all_cons]
/-- The kids of row i from q on, then the rows behind it. -/
theorem ref_l1 (l : List S43) (hs : l.length < 9223372036854775807) (i : Nat) (hi : i < l.length) (hks : l[i].f1.length < 9223372036854775807) (r : Bool) (hr : Ev (fun k => squintref04_Valid.l0 k l ((i + 1 : Nat) : Int)) r) :
    ∀ (d q : Nat), q + d = l[i].f1.length → Ev (fun k => squintref04_Valid.l1 k l (i : Int) (l[i].f1.length : Int) (q : Int)) (kidsB l.length (l[i].f1.drop q) && r)
  | 0, q, h => by
    refine Ev.step (f := fun k => squintref04_Valid.l0 k l ((i + 1 : Nat) : Int)) (fun k => ?_) ?_
    · simp only [squintref04_Valid.l1]
      rw [if_neg (by omega), wrap_succ (by omega)]
    · rw [List.drop_eq_nil_of_le (by omega)]
      simpa [kidsB] using hr
  | d + 1, q, h => by
    have hq : q < l[i].f1.length := by omega
    have e : kidsB l.length (l[i].f1.drop q) = (decide (0 ≤ l[i].f1[q]) && decide (l[i].f1[q] < (l.length : Int)) && kidsB l.length (l[i].f1.drop (q + 1))) := by rw [List.drop_eq_getElem_cons hq]; rfl
    by_cases h1 : l[i].f1[q] < 0
    · refine Ev.step (f := fun _ => some false) (fun k => ?_) (by rw [e]; simpa [show ¬ 0 ≤ l[i].f1[q] by omega] using Ev.now false)
      simp only [squintref04_Valid.l1]
      rw [rd43_get hi, rd_get hq, if_pos (by omega), if_pos (by omega), if_pos (by omega), if_pos (by omega), if_pos (by omega), if_pos h1]
    · by_cases h2 : l[i].f1[q] ≥ (l.length : Int)
      · refine Ev.step (f := fun _ => some false) (fun k => ?_) (by rw [e]; simpa [show ¬ l[i].f1[q] < (l.length : Int) by omega] using Ev.now false)
        simp only [squintref04_Valid.l1]
        rw [rd43_get hi, rd_get hq, if_pos (by omega), if_pos (by omega), if_pos (by omega), if_pos (by omega), if_pos (by omega), if_neg h1, if_pos h2]
      · refine Ev.step (f := fun k => squintref04_Valid.l1 k l (i : Int) (l[i].f1.length : Int) ((q + 1 : Nat) : Int)) (fun k => ?_) ?_
        · simp only [squintref04_Valid.l1]
          rw [rd43_get hi, rd_get hq, if_pos (by omega), if_pos (by omega), if_pos (by omega), if_pos (by omega), if_pos (by omega), if_neg h1, if_neg h2, wrap_succ (by omega)]
        · have := ref_l1 l hs i hi hks r hr d (q + 1) (by omega)
          rw [e]
          simpa [show 0 ≤ l[i].f1[q] by omega, show l[i].f1[q] < (l.length : Int) by omega] using this
theorem ref_row (l : List S43) (hs : l.length < 9223372036854775807) (i : Nat) (hi : i < l.length) (hks : l[i].f1.length < 9223372036854775807) (r : Bool) (hr : Ev (fun k => squintref04_Valid.l0 k l ((i + 1 : Nat) : Int)) r) :
    Ev (fun k => squintref04_Valid.l0 k l (i : Int)) (rightB l.length l[i] && r) := by
  have h4 : ∀ b, Ev (fun k => squintref04_Valid.j4 k l (i : Int) (l[i].f1.length : Int) b) (!b && kidsB l.length l[i].f1 && r) := fun b => by
    cases b
    · refine Ev.step (fun k => by simp only [squintref04_Valid.j4]; rw [if_neg (by simp)]) ?_
      simpa using ref_l1 l hs i hi hks r hr l[i].f1.length 0 (by omega)
    · exact Ev.step (fun k => by simp only [squintref04_Valid.j4]; rw [if_pos trivial]) (by simpa using Ev.now false)
  have h3 : ∀ b, Ev (fun k => squintref04_Valid.j3 k l (i : Int) (l[i].f1.length : Int) b) (b && kidsB l.length l[i].f1 && (l[i].f0 == 6 || !l[i].f2) && r) := fun b => by
    cases b
    · refine Ev.step (fun k => by simp only [squintref04_Valid.j3]; rw [if_neg (by simp)]) ?_
      simpa using h4 true
    · cases h2 : l[i].f2
      · refine Ev.step (fun k => by simp only [squintref04_Valid.j3]; rw [if_pos trivial, if_pos (by omega), if_pos (by omega), rd43_get hi, if_neg (by simp [h2])]) ?_
        simpa using h4 false
      · refine Ev.step (fun k => by simp only [squintref04_Valid.j3]; rw [if_pos trivial, if_pos (by omega), if_pos (by omega), rd43_get hi, if_pos h2]) ?_
        have := h4 (l[i].f0 != 6)
        by_cases e6 : l[i].f0 = 6
        · simpa [e6] using this
        · have e6' : (l[i].f0 == 6) = false := by simpa using e6
          simpa [bne, e6'] using this
  have h2 : ∀ b, (b = true → l[i].f0 = 3 ∨ l[i].f0 = 5) → (b = false → l[i].f0 ≠ 3 ∧ l[i].f0 ≠ 5 ∧ l[i].f0 ≠ 1 ∧ l[i].f0 ≠ 2) → Ev (fun k => squintref04_Valid.j2 k l (i : Int) (l[i].f1.length : Int) false l[i].f0 b) (rightB l.length l[i] && r) := fun b hb hn => by
    cases b
    · obtain ⟨n3, n5, n1, n2⟩ := hn rfl
      by_cases e4 : l[i].f0 = 4
      · refine Ev.step (fun k => by simp only [squintref04_Valid.j2]; rw [if_neg (by simp), if_pos e4]) ?_
        simpa [rightB, shapeB, e4] using h3 (decide ((l[i].f1.length : Int) ≥ 2))
      · by_cases e6 : l[i].f0 = 6
        · cases hf2 : l[i].f2
          · refine Ev.step (fun k => by simp only [squintref04_Valid.j2]; rw [if_neg (by simp), if_neg e4, if_pos e6, if_pos (by omega), if_pos (by omega), rd43_get hi, if_neg (by simp [hf2])]) ?_
            have := h3 true
            simp only [rightB, shapeB, e6]
            simpa [e6, hf2] using this
          · refine Ev.step (fun k => by simp only [squintref04_Valid.j2]; rw [if_neg (by simp), if_neg e4, if_pos e6, if_pos (by omega), if_pos (by omega), rd43_get hi, if_pos hf2]) ?_
            have := h3 (decide ((l[i].f1.length : Int) ≥ 1))
            simp only [rightB, shapeB, e6]
            simpa [e6, hf2] using this
        · refine Ev.step (fun k => by simp only [squintref04_Valid.j2]; rw [if_neg (by simp), if_neg e4, if_neg e6]) ?_
          have := h3 false
          simpa [rightB, shapeB, n1, n2, n3, n5, e4, e6] using this
    · refine Ev.step (fun k => by simp only [squintref04_Valid.j2]; rw [if_pos trivial]) ?_
      have h35 := hb rfl
      have n1 : l[i].f0 ≠ 1 := by omega
      have n2 : l[i].f0 ≠ 2 := by omega
      simpa [rightB, shapeB, n1, n2, h35] using h3 ((l[i].f1.length : Int) == 1)
  have h1 : ∀ b, (b = true → l[i].f0 = 1 ∨ l[i].f0 = 2) → (b = false → l[i].f0 ≠ 1 ∧ l[i].f0 ≠ 2) → Ev (fun k => squintref04_Valid.j1 k l (i : Int) (l[i].f1.length : Int) false l[i].f0 b) (rightB l.length l[i] && r) := fun b hb hn => by
    cases b
    · obtain ⟨n1, n2⟩ := hn rfl
      by_cases e3 : l[i].f0 = 3
      · refine Ev.step (fun k => by simp only [squintref04_Valid.j1]; rw [if_neg (by simp), if_pos e3]) (h2 _ (fun h => by simp at h; omega) (fun h => by simp at h; omega))
      · refine Ev.step (fun k => by simp only [squintref04_Valid.j1]; rw [if_neg (by simp), if_neg e3]) (h2 _ (fun h => by simp at h; omega) (fun h => by simp at h; omega))
    · refine Ev.step (fun k => by simp only [squintref04_Valid.j1]; rw [if_pos trivial]) ?_
      simpa [rightB, shapeB, hb rfl] using h3 ((l[i].f1.length : Int) == 0)
  by_cases e1 : l[i].f0 = 1
  · refine Ev.step (fun k => by simp only [squintref04_Valid.l0]; rw [if_pos (by omega), if_pos (by omega), rd43_get hi, if_pos e1]) (h1 _ (fun h => by simp at h; omega) (fun h => by simp at h; omega))
  · refine Ev.step (fun k => by simp only [squintref04_Valid.l0]; rw [if_pos (by omega), if_pos (by omega), rd43_get hi, if_neg e1]) (h1 _ (fun h => by simp at h; omega) (fun h => by simp at h; omega))
theorem ref_l0 (l : List S43) (hs : l.length < 9223372036854775807) (hk : ∀ x ∈ l, x.f1.length < 9223372036854775807) : ∀ (d i : Nat), i + d = l.length → Ev (fun k => squintref04_Valid.l0 k l (i : Int)) (refRest l i)
  | 0, i, h => by
    refine Ev.step (f := fun _ => some (refRest l i)) (fun k => ?_) (Ev.now _)
    simp only [squintref04_Valid.l0]
    rw [if_neg (by omega), refRest, List.drop_eq_nil_of_le (by omega)]
    simp
  | d + 1, i, h => by
    have hi : i < l.length := by omega
    rw [refRest_succ hi]
    exact ref_row l hs i hi (hk _ (List.getElem_mem hi)) _ (ref_l0 l hs hk d (i + 1) (by omega))
theorem refValid_ev (l : List S43) (hs : l.length < 9223372036854775807) (hk : ∀ x ∈ l, x.f1.length < 9223372036854775807) : Ev (fun k => squintref04_Valid.f k l) (validB l) := by
  refine Ev.congr (f := fun k => squintref04_Valid.l0 k l 0) (fun k => rfl) ?_
  simpa [validB, refRest] using ref_l0 l hs hk l.length 0 (by omega)
theorem numbers_l0 (l : List Int) (hs : l.length < 9223372036854775807) : ∀ (d i : Nat), i + d = l.length → Ev (fun k => squintlaw04_numbers.l0 k l l (i : Int)) true
  | 0, i, h => by
    refine Ev.step (f := fun _ => some true) (fun k => ?_) (Ev.now _)
    simp only [squintlaw04_numbers.l0]
    rw [if_neg (by omega)]
  | d + 1, i, h => by
    refine Ev.step (f := fun k => squintlaw04_numbers.l0 k l l ((i + 1 : Nat) : Int)) (fun k => ?_) (numbers_l0 l hs d (i + 1) (by omega))
    simp only [squintlaw04_numbers.l0]
    rw [if_pos (by omega), if_pos (by omega), if_pos (by omega), if_pos trivial, wrap_succ (by omega)]
theorem numbers_ev (l : List Int) (hs : l.length < 9223372036854775807) : Ev (fun k => squintlaw04_numbers.f k l l) true :=
  Ev.congr (fun k => by unfold squintlaw04_numbers.f; rw [if_pos rfl]; rfl) (numbers_l0 l hs l.length 0 (by omega))
theorem rows_l0 (l : List S43) (hs : l.length < 9223372036854775807) (hk : ∀ x ∈ l, x.f1.length < 9223372036854775807) : ∀ (d i : Nat), i + d = l.length → Ev (fun k => squintlaw04_rows.l0 k l l (i : Int)) true
  | 0, i, h => by
    refine Ev.step (f := fun _ => some true) (fun k => ?_) (Ev.now _)
    simp only [squintlaw04_rows.l0]
    rw [if_neg (by omega)]
  | d + 1, i, h => by
    have hi : i < l.length := by omega
    refine Ev.step (f := fun k => (squintlaw04_numbers.f k l[i].f1 l[i].f1).bind fun t => if t = true then squintlaw04_rows.l0 k l l ((i + 1 : Nat) : Int) else some false) (fun k => ?_) ?_
    · simp only [squintlaw04_rows.l0]
      rw [if_pos (by omega), if_pos (by omega), if_pos (by omega), rd43_get hi, wrap_succ (by omega)]
      simp
    · refine Ev.bind (numbers_ev _ (hk _ (List.getElem_mem hi))) ?_
      exact Ev.congr (fun k => by rw [if_pos rfl]) (rows_l0 l hs hk d (i + 1) (by omega))
theorem rows_ev (l : List S43) (hs : l.length < 9223372036854775807) (hk : ∀ x ∈ l, x.f1.length < 9223372036854775807) : Ev (fun k => squintlaw04_rows.f k l l) true :=
  Ev.congr (fun k => by unfold squintlaw04_rows.f; rw [if_pos rfl]; rfl) (rows_l0 l hs hk l.length 0 (by omega))
end Go.Proofs.Ytapagakfckjhdaa.PKindsSame
