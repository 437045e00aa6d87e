/-
  KindsValid in plain words: for every table that is not too great the law's printed function tells true.
-/
import Derived.Test.YtapagakfckjhdaaRvKindsValid
import Derived.Test.YtapagakfckjhdaaOp43KindsValid
set_option autoImplicit false
set_option linter.unusedVariables false
namespace Go.Proofs.Ytapagakfckjhdaa.PKindsValid
open Go.RowKit Go.Proofs.YtapagakfckjhdaaW.PrintWords
theorem shown_ev : Ev (fun _ => squintlaw04_shown.f) true := Ev.now true
theorem ownRows_ev (l : List S43) (h1 : l.length < 3518437208883) (h2 : ∀ x ∈ l, x.f1.length < 17592186044416) : Ev (fun k => squintlaw04_ownRows.f k l) l :=
  Ev.congr (fun k => by unfold squintlaw04_ownRows.f; rw [if_pos h1, if_pos (List.all_eq_true.2 fun x hx => decide_eq_true (h2 x hx))]) (Ev.now l)
theorem pure (l : List S43) (h1 : l.length < 3518437208883) (h2 : ∀ x ∈ l, x.f1.length < 17592186044416) : ∃ k, squintlaw04_KindsValid.f k l = some true := by
  have hs : l.length < 9223372036854775807 := by omega
  have hk : ∀ x ∈ l, x.f1.length < 9223372036854775807 := fun x hx => by have := h2 x hx; omega
  obtain ⟨b, hb⟩ := beyond_ev (l.map fun x => (x.f1.length : Int)) (by simpa using hs)
  refine Ev.rounds (r := true) ?_
  refine Ev.congr (fun k => by unfold squintlaw04_KindsValid.f; rfl) (Ev.bind (ofRows_ev l (by omega)) (Ev.bind hb ?_))
  cases b
  · refine Ev.congr (fun k => if_neg (by simp)) (Ev.bind shown_ev (Ev.bind (ownRows_ev l h1 h2) (Ev.bind (valid_ev l hs hk) (Ev.bind (valid_ev l hs hk) (Ev.bind (rows_ev l hs hk) (Ev.bind (refValid_ev l hs hk) ?_))))))
    exact Ev.congr (fun k => by simp) (Ev.now true)
  · exact Ev.congr (fun k => by rw [if_pos rfl]) (Ev.now true)
theorem law (l : List S43) (hB : (l.map B43).sum + 1 ≤ 1048576) (hG : ∀ x ∈ l, G43 x) : ∃ k, squintlaw04_KindsValid.f k l = some true :=
  pure l (by have := Opn.sum_len B43_one l; omega) (fun x hx => by have := Opn.sum_mem (f := B43) hx; have := B43_kids x; omega)
end Go.Proofs.Ytapagakfckjhdaa.PKindsValid
