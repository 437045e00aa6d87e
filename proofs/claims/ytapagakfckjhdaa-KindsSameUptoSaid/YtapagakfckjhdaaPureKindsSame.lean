/-
  KindsSame in plain words: the program's Same answers what the document's does.
-/
import Derived.Test.YtapagakfckjhdaaRsmKindsSame
import Derived.Test.YtapagakfckjhdaaOp43KindsSame
set_option autoImplicit false
set_option linter.unusedVariables false
set_option linter.unusedSectionVars false
namespace Go.Proofs.Ytapagakfckjhdaa.PKindsSame
open Go.RowKit Go.Proofs.YtapagakfckjhdaaW.PrintWords
theorem shown_ev : Ev (fun _ => squintlaw04_shown.f) true := Ev.now true
theorem ownRows_ev (l : List S43) (hn : l.length ≤ 2000) (hk : ∀ x ∈ l, x.f1.length ≤ 1048576) : Ev (fun k => squintlaw04_ownRows.f k l) l :=
  Ev.congr (fun k => by unfold squintlaw04_ownRows.f; rw [if_pos (by omega), if_pos (List.all_eq_true.2 fun x hx => by have := hk x hx; simp only [decide_eq_true_eq]; omega)]) (Ev.now l)
theorem same_end (l : List S43) (hn : l.length ≤ 2000) (hk : ∀ x ∈ l, x.f1.length ≤ 1048576) (a b : Int) :
    Ev (fun k => (squintlaw04_ownRows.f k l).bind fun t216 => ((kinds_Same.f k l a b).bind fun t219 => ((squintref04_Same.f k t216 a b).bind fun t220 => (some (t219 == t220))))) true := by
  obtain ⟨r, h1, h2, _⟩ := agree l hn hk a b
  refine Ev.bind (f := fun k t216 => (kinds_Same.f k l a b).bind fun t219 => ((squintref04_Same.f k t216 a b).bind fun t220 => (some (t219 == t220)))) (ownRows_ev l hn hk) ?_
  refine Ev.bind (f := fun k t219 => (squintref04_Same.f k l a b).bind fun t220 => (some (t219 == t220))) h1 ?_
  refine Ev.bind (f := fun k t220 => some (r == t220)) h2 ?_
  simpa using Ev.now true
theorem ksame_l0 (a b : Int) : ∀ (d i : Nat) (l : List S43), l.length ≤ 2000 → (∀ x ∈ l, x.f1.length ≤ 1048576) → i + d = l.length → Ev (fun k => squintlaw04_KindsSame.l0 k a b l (i : Int)) true
  | 0, i, l, hn, hk, h => by
    refine Ev.step (fun k => ?_) (same_end l hn hk a b)
    simp only [squintlaw04_KindsSame.l0]
    rw [if_neg (by omega)]
  | d + 1, i, l, hn, hk, h => by
    have hi : i < l.length := by omega
    have hset : ∀ (kd : Int), Ev (fun k => squintlaw04_KindsSame.l0 k a b (l.set i (⟨kd, (rd_T43 l (i : Int)).f1, (rd_T43 l (i : Int)).f2⟩ : S43)) ((i + 1 : Nat) : Int)) true := fun kd =>
      ksame_l0 a b d (i + 1) _ (by simpa using hn) (fun x hx => by
        rcases List.mem_or_eq_of_mem_set hx with hx | rfl
        · exact hk x hx
        · simp only
          rw [rd43_get hi]
          exact hk _ (List.getElem_mem hi)) (by simp; omega)
    by_cases e3 : (rd_T43 l (i : Int)).f0 = 3
    · refine Ev.step (fun k => ?_) (hset 5)
      simp only [squintlaw04_KindsSame.l0]
      rw [if_pos (by omega), if_pos (by omega), if_pos e3, wrap_succ (by omega)]
      rfl
    · by_cases e2 : (rd_T43 l (i : Int)).f0 = 2
      · refine Ev.step (fun k => ?_) (hset 1)
        simp only [squintlaw04_KindsSame.l0]
        rw [if_pos (by omega), if_pos (by omega), if_neg e3, if_pos e2, wrap_succ (by omega)]
        rfl
      · refine Ev.step (fun k => ?_) (ksame_l0 a b d (i + 1) l hn hk (by omega))
        simp only [squintlaw04_KindsSame.l0]
        rw [if_pos (by omega), if_pos (by omega), if_neg e3, if_neg e2, wrap_succ (by omega)]
theorem same_j1 (l : List S43) (hn : l.length ≤ 2000) (hk : ∀ x ∈ l, x.f1.length ≤ 1048576) (a b : Int) : Ev (fun k => squintlaw04_KindsSame.j1 k a b l false) true := by
  refine Ev.step (fun k => ?_) (ksame_l0 a b l.length 0 l hn hk (by omega))
  simp only [squintlaw04_KindsSame.j1]
  rfl
theorem same_j0 (l : List S43) (hn : l.length ≤ 2000) (hk : ∀ x ∈ l, x.f1.length ≤ 1048576) (a b : Int) : Ev (fun k => squintlaw04_KindsSame.j0 k l a b false) true := by
  obtain ⟨r, h1, h2, hi⟩ := agree l hn hk a b
  obtain ⟨r', h1', h2', hi'⟩ := agree l hn hk b a
  have e : r' = r := by
    have : r = true ↔ r' = true := by
      rw [hi, hi']
      exact ⟨fun ⟨v, ⟨c0, c1, c2, c3⟩, s⟩ => ⟨v, ⟨c2, c3, c0, c1⟩, s.turn⟩, fun ⟨v, ⟨c0, c1, c2, c3⟩, s⟩ => ⟨v, ⟨c2, c3, c0, c1⟩, s.turn⟩⟩
    cases r <;> cases r' <;> simp_all
  subst e
  refine Ev.step (f := fun k => (squintlaw04_shown.f).bind fun t208 => ((squintlaw04_ownRows.f k l).bind fun t209 => ((kinds_Same.f k t209 a b).bind fun t212 => ((kinds_Same.f k t209 b a).bind fun t213 => ((squintlaw04_rows.f k t209 l).bind fun t214 => ((squintref04_Same.f k l a b).bind fun t215 => (if t208 = true then (if t214 = true then (if (t212 != t215) = true then (squintlaw04_KindsSame.j1 k a b t209 true) else (squintlaw04_KindsSame.j1 k a b t209 (t213 != t215))) else (squintlaw04_KindsSame.j1 k a b t209 true)) else (squintlaw04_KindsSame.j1 k a b t209 true)))))))) (fun k => ?_) ?_
  · simp only [squintlaw04_KindsSame.j0]
    rw [if_neg (by simp)]
  · refine Ev.bind (f := fun k t208 => ((squintlaw04_ownRows.f k l).bind fun t209 => ((kinds_Same.f k t209 a b).bind fun t212 => ((kinds_Same.f k t209 b a).bind fun t213 => ((squintlaw04_rows.f k t209 l).bind fun t214 => ((squintref04_Same.f k l a b).bind fun t215 => (if t208 = true then (if t214 = true then (if (t212 != t215) = true then (squintlaw04_KindsSame.j1 k a b t209 true) else (squintlaw04_KindsSame.j1 k a b t209 (t213 != t215))) else (squintlaw04_KindsSame.j1 k a b t209 true)) else (squintlaw04_KindsSame.j1 k a b t209 true)))))))) shown_ev (Ev.bind (ownRows_ev l hn hk) (Ev.bind h1 (Ev.bind h1' (Ev.bind (rows_ev l (by omega) (fun x hx => by have := hk x hx; omega)) (Ev.bind h2 ?_)))))
    refine Ev.congr (fun k => by rw [if_pos rfl, if_pos rfl, if_neg (by simp)]) ?_
    have := same_j1 l hn hk a b
    simpa using this
theorem pure (l : List S43) (a b : Int) (h1 : l.length ≤ 1048576) (h2 : ∀ x ∈ l, x.f1.length ≤ 1048576) :
    ∃ k, squintlaw04_KindsSame.f k l a b = some true := by
  have hk : ∀ x ∈ l, x.f1.length < 9223372036854775807 := fun x hx => by have := h2 x hx; omega
  refine Ev.rounds (r := true) ?_
  have hj : Ev (fun k => squintlaw04_KindsSame.j0 k l a b true) true := Ev.step (f := fun _ => some true) (fun k => by simp only [squintlaw04_KindsSame.j0]; rw [if_pos trivial]) (Ev.now _)
  obtain ⟨bb, hbb⟩ := beyond_ev (l.map fun x => (x.f1.length : Int)) (by simp; omega)
  refine Ev.congr (fun k => by unfold squintlaw04_KindsSame.f; rfl) (Ev.bind (ofRows_ev l (by omega)) (Ev.bind hbb ?_))
  cases bb
  · by_cases e : (l.length : Int) > 2000
    · refine Ev.congr (fun k => by rw [if_neg (by simp), decide_eq_true e]) hj
    · refine Ev.congr (fun k => by rw [if_neg (by simp), decide_eq_false e]) (same_j0 l (by omega) h2 a b)
  · exact Ev.congr (fun k => if_pos rfl) hj
theorem law (l : List S43) (a b : Int) (hB : (l.map B43).sum + 1 ≤ 1048576) (hG : ∀ x ∈ l, G43 x) (ha : (Lit.int .i64 a).wf = true) (hb : (Lit.int .i64 b).wf = true) :
    ∃ k, squintlaw04_KindsSame.f k l a b = some true :=
  pure l a b (by have := Opn.sum_len B43_one l; omega) (fun x hx => by have := Opn.sum_mem (f := B43) hx; have := B43_kids x; omega)
end Go.Proofs.Ytapagakfckjhdaa.PKindsSame
