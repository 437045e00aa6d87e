/-
  What the printed functions on tables of types come to, in plain words: Valid of the program and of the document.
-/
import Derived.Test.YtapagakfckjhdaaPKindsSamex6
set_option autoImplicit false
set_option linter.unusedVariables false
set_option linter.unusedSimpArgs false
namespace Go.Proofs.Ytapagakfckjhdaa.PKindsSame
open Go.RowKit Go.Proofs.YtapagakfckjhdaaW.PrintWords

theorem wrap_succ {i : Nat} (h : i < 9223372036854775807) : wrap64 ((i : Int) + 1) = ((i + 1 : Nat) : Int) := by unfold wrap64; omega
theorem rd_get {l : List Int} {i : Nat} (h : i < l.length) : rd l (i : Int) = l[i] := by simp [rd, h]
theorem rd43_get {l : List S43} {i : Nat} (h : i < l.length) : rd_T43 l (i : Int) = l[i] := by simp [rd_T43, h]

def shapeB (kind n : Int) (res : Bool) : Bool :=
  if kind = 1 ∨ kind = 2 then n == 0 else if kind = 3 ∨ kind = 5 then n == 1 else if kind = 4 then decide (n ≥ 2) else if kind = 6 then decide (n ≥ 1) || !res else false
def kidsB (m : Int) (l : List Int) : Bool := l.all fun k => decide (0 ≤ k) && decide (k < m)
def rightB (m : Int) (x : S43) : Bool := shapeB x.f0 x.f1.length x.f2 && kidsB m x.f1 && (x.f0 == 6 || !x.f2)
def validB (l : List S43) : Bool := l.all (rightB l.length)

theorem right_l0 (m kd : Int) (res : Bool) (kids : List Int) (hs : kids.length < 9223372036854775807) : ∀ (d i : Nat) (acc : Bool), i + d = kids.length →
    Ev (fun k => kinds_right.l0 k m acc kids (kids.length : Int) (i : Int) kd kids res) (acc && kidsB m (kids.drop i) && (kd == 6 || !res))
  | 0, i, acc, h => by
    refine Ev.step (f := fun _ => some (acc && kidsB m (kids.drop i) && (kd == 6 || !res))) (fun k => ?_) (Ev.now _)
    simp only [kinds_right.l0]
    rw [if_neg (by omega), List.drop_eq_nil_of_le (by omega)]
    cases acc <;> simp [kidsB]
    by_cases h6 : kd = 6 <;> simp [h6]
  | d + 1, i, acc, h => by
    have hi : i < kids.length := by omega
    refine Ev.step (f := fun k => kinds_right.l0 k m (acc && (decide (0 ≤ kids[i]) && decide (kids[i] < m))) kids (kids.length : Int) ((i + 1 : Nat) : Int) kd kids res) (fun k => ?_) ?_
    · simp only [kinds_right.l0]
      rw [if_pos (by omega), if_pos (by omega), if_pos (by omega), rd_get hi, wrap_succ (by omega)]
      cases acc
      · simp
      · by_cases h0 : 0 ≤ kids[i] <;> simp [h0]
    · have := right_l0 m kd res kids hs d (i + 1) (acc && (decide (0 ≤ kids[i]) && decide (kids[i] < m))) (by omega)
      have e : kidsB m (kids.drop i) = (decide (0 ≤ kids[i]) && decide (kids[i] < m) && kidsB m (kids.drop (i + 1))) := by rw [List.drop_eq_getElem_cons hi]; rfl
      rw [e]
      simpa only [Bool.and_assoc] using this
theorem right_ev (m : Int) (x : S43) (hs : x.f1.length < 9223372036854775807) : Ev (fun k => kinds_right.f k x.f0 x.f1 x.f2 m) (rightB m x) := by
  have h2 : ∀ acc, Ev (fun k => kinds_right.j2 k m acc x.f0 x.f1 x.f2) (acc && kidsB m x.f1 && (x.f0 == 6 || !x.f2)) := fun acc => by
    refine Ev.step (fun k => by simp only [kinds_right.j2]; rfl) ?_
    simpa using right_l0 m x.f0 x.f2 x.f1 hs x.f1.length 0 acc (by omega)
  have h1 : ∀ b, (b = true → x.f0 = 3 ∨ x.f0 = 5) → (b = false → x.f0 ≠ 3 ∧ x.f0 ≠ 5 ∧ x.f0 ≠ 1 ∧ x.f0 ≠ 2) → Ev (fun k => kinds_right.j1 k m (x.f1.length : Int) false x.f0 b x.f0 x.f1 x.f2) (rightB m x) := fun b hb hn => by
    cases b
    · obtain ⟨n3, n5, n1, n2⟩ := hn rfl
      by_cases e4 : x.f0 = 4
      · refine Ev.step (fun k => by simp only [kinds_right.j1]; rw [if_neg (by simp), if_pos e4]) ?_
        simpa [rightB, shapeB, e4] using h2 (decide ((x.f1.length : Int) ≥ 2))
      · by_cases e6 : x.f0 = 6
        · by_cases en : (x.f1.length : Int) ≥ 1
          · refine Ev.step (fun k => by simp only [kinds_right.j1]; rw [if_neg (by simp), if_neg e4, if_pos e6, if_pos en]) ?_
            have := h2 true
            simp only [rightB, shapeB, e6]
            simpa [e6, en] using this
          · refine Ev.step (fun k => by simp only [kinds_right.j1]; rw [if_neg (by simp), if_neg e4, if_pos e6, if_neg en]) ?_
            have := h2 (!x.f2)
            simp only [rightB, shapeB, e6]
            simpa [e6, en] using this
        · refine Ev.step (fun k => by simp only [kinds_right.j1]; rw [if_neg (by simp), if_neg e4, if_neg e6]) ?_
          have := h2 false
          simpa [rightB, shapeB, n1, n2, n3, n5, e4, e6] using this
    · refine Ev.step (fun k => by simp only [kinds_right.j1]; rw [if_pos trivial]) ?_
      have h35 := hb rfl
      have n1 : x.f0 ≠ 1 := by omega
      have n2 : x.f0 ≠ 2 := by omega
      simpa [rightB, shapeB, n1, n2, h35] using h2 ((x.f1.length : Int) == 1)
  have h0 : ∀ b, (b = true → x.f0 = 1 ∨ x.f0 = 2) → (b = false → x.f0 ≠ 1 ∧ x.f0 ≠ 2) → Ev (fun k => kinds_right.j0 k m (x.f1.length : Int) false x.f0 b x.f0 x.f1 x.f2) (rightB m x) := fun b hb hn => by
    cases b
    · obtain ⟨n1, n2⟩ := hn rfl
      by_cases e3 : x.f0 = 3
      · refine Ev.step (fun k => by simp only [kinds_right.j0]; rw [if_neg (by simp), if_pos e3]) (h1 _ (fun h => by simp at h; omega) (fun h => by simp at h; omega))
      · refine Ev.step (fun k => by simp only [kinds_right.j0]; rw [if_neg (by simp), if_neg e3]) (h1 _ (fun h => by simp at h; omega) (fun h => by simp at h; omega))
    · refine Ev.step (fun k => by simp only [kinds_right.j0]; rw [if_pos trivial]) ?_
      simpa [rightB, shapeB, hb rfl] using h2 ((x.f1.length : Int) == 0)
  by_cases e1 : x.f0 = 1
  · exact Ev.congr (fun k => by unfold kinds_right.f; rw [if_pos e1]) (h0 _ (fun h => by simp at h; omega) (fun h => by simp at h; omega))
  · exact Ev.congr (fun k => by unfold kinds_right.f; rw [if_neg e1]) (h0 _ (fun h => by simp at h; omega) (fun h => by simp at h; omega))
theorem valid_l0 (l : List S43) (hs : l.length < 9223372036854775807) (hk : ∀ x ∈ l, x.f1.length < 9223372036854775807) : ∀ (d i : Nat), i + d = l.length → Ev (fun k => kinds_Valid.l0 k l l (l.length : Int) (i : Int)) ((l.drop i).all (rightB l.length))
  | 0, i, h => by
    refine Ev.step (f := fun _ => some ((l.drop i).all (rightB l.length))) (fun k => ?_) (Ev.now _)
    simp only [kinds_Valid.l0]
    rw [if_neg (by omega), List.drop_eq_nil_of_le (by omega)]
    simp
  | d + 1, i, h => by
    have hi : i < l.length := by omega
    refine Ev.step (f := fun k => (kinds_right.f k (l[i].f0) (l[i].f1) (l[i].f2) (l.length : Int)).bind fun t => if t = true then kinds_Valid.l0 k l l (l.length : Int) ((i + 1 : Nat) : Int) else some false) (fun k => ?_) ?_
    · simp only [kinds_Valid.l0]
      rw [if_pos (by omega), if_pos (by omega), if_pos (by omega), rd43_get hi, wrap_succ (by omega)]
    · refine Ev.bind (right_ev (l.length : Int) l[i] (hk _ (List.getElem_mem hi))) ?_
      rw [List.drop_eq_getElem_cons hi, List.all_cons]
      cases hr : rightB (l.length : Int) l[i]
      · exact Ev.congr (fun k => by rw [if_neg (by simp)]) (by simpa using Ev.now false)
      · exact Ev.congr (fun k => by rw [if_pos rfl]) (by simpa using valid_l0 l hs hk d (i + 1) (by omega))
theorem valid_ev (l : List S43) (hs : l.length < 9223372036854775807) (hk : ∀ x ∈ l, x.f1.length < 9223372036854775807) : Ev (fun k => kinds_Valid.f k l) (validB l) := by
  refine Ev.congr (f := fun k => kinds_Valid.l0 k l l (l.length : Int) 0) (fun k => rfl) ?_
  simpa [validB] using valid_l0 l hs hk l.length 0 (by omega)
theorem ofRows_l0 (l : List S43) (hs : l.length < 17592186044416) : ∀ (d i : Nat) (acc : List Int), acc.length = i → i + d = l.length → Ev (fun k => squintlaw04_ofRows.l0 k l acc (i : Int)) (acc ++ (l.drop i).map fun x => (x.f1.length : Int))
  | 0, i, acc, ha, h => by
    refine Ev.step (f := fun _ => some (acc ++ (l.drop i).map fun x => (x.f1.length : Int))) (fun k => ?_) (Ev.now _)
    simp only [squintlaw04_ofRows.l0]
    rw [if_neg (by omega), List.drop_eq_nil_of_le (by omega)]
    simp
  | d + 1, i, acc, ha, h => by
    have hi : i < l.length := by omega
    refine Ev.step (f := fun k => squintlaw04_ofRows.l0 k l (acc ++ [(l[i].f1.length : Int)]) ((i + 1 : Nat) : Int)) (fun k => ?_) ?_
    · simp only [squintlaw04_ofRows.l0]
      rw [if_pos (by omega), if_pos (by omega), if_pos (by omega), rd43_get hi, wrap_succ (by omega)]
    · have := ofRows_l0 l hs d (i + 1) (acc ++ [(l[i].f1.length : Int)]) (by simp [ha]) (by omega)
      have e : (l.drop i).map (fun x => (x.f1.length : Int)) = (l[i].f1.length : Int) :: (l.drop (i + 1)).map (fun x => (x.f1.length : Int)) := by rw [List.drop_eq_getElem_cons hi]; rfl
      rw [e]
      simpa using this
theorem ofRows_ev (l : List S43) (hs : l.length < 17592186044416) : Ev (fun k => squintlaw04_ofRows.f k l) (l.map fun x => (x.f1.length : Int)) := by
  refine Ev.congr (f := fun k => squintlaw04_ofRows.l0 k l [] 0) (fun k => rfl) ?_
  simpa using ofRows_l0 l hs l.length 0 [] rfl (by omega)
theorem beyond_l0 (l : List Int) (hs : l.length < 9223372036854775807) : ∀ (d i : Nat) (n : Int), i + d = l.length → ∃ r, Ev (fun k => squintlaw04_beyond.l0 k l n (i : Int)) r
  | 0, i, n, h => ⟨false, Ev.step (f := fun _ => some false) (fun k => by simp only [squintlaw04_beyond.l0]; rw [if_neg (by omega)]) (Ev.now _)⟩
  | d + 1, i, n, h => by
    have hi : i < l.length := by omega
    by_cases h1 : wrap64 (n + 1) ≥ 2147483647
    · exact ⟨true, Ev.step (f := fun _ => some true) (fun k => by simp only [squintlaw04_beyond.l0]; rw [if_pos (by omega), if_pos h1]) (Ev.now _)⟩
    · by_cases h2 : rd l (i : Int) > wrap64 (2147483647 - wrap64 (n + 1))
      · exact ⟨true, Ev.step (f := fun _ => some true) (fun k => by simp only [squintlaw04_beyond.l0]; rw [if_pos (by omega), if_neg h1, if_pos (by omega), if_pos h2]) (Ev.now _)⟩
      · obtain ⟨r, hr⟩ := beyond_l0 l hs d (i + 1) (wrap64 (wrap64 (n + 1) + rd l (i : Int))) (by omega)
        exact ⟨r, Ev.step (fun k => by simp only [squintlaw04_beyond.l0]; rw [if_pos (by omega), if_neg h1, if_pos (by omega), if_neg h2, wrap_succ (by omega)]) hr⟩
theorem beyond_ev (l : List Int) (hs : l.length < 9223372036854775807) : ∃ r, Ev (fun k => squintlaw04_beyond.f k l) r := beyond_l0 l hs l.length 0 0 (by omega)
end Go.Proofs.Ytapagakfckjhdaa.PKindsSame
