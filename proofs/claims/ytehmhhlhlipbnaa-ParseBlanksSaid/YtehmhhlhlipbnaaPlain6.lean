/-
 Tokens that are alike are read alike; a source that is refused at a token, and what is ahead of it.
-/
import Derived.Test.YtehmhhlhlipbnaaPlain3
import Derived.Test.YtehmhhlhlipbnaaPlain4
import Derived.Test.YtehmhhlhlipbnaaPlain5
set_option autoImplicit false
set_option linter.unusedVariables false
set_option linter.unusedSimpArgs false
namespace Go.Proofs.Ytehmhhlhlipbnaa.Vs
open Go.VI Go.Proofs
theorem NE.at {l m : List ND} (h : NE l m) {i : Nat} (h1 : i < l.length) (h2 : i < m.length) : nodeP true l[i] m[i] := by
 have e : (l.map strip)[i]'(by simpa using h1) = (m.map strip)[i]'(by simpa using h2) := by
  have := h; unfold NE at this
  simp only [this]
 simp only [List.getElem_map, strip, ND.mk.injEq] at e
 exact ⟨e.1, .inl rfl, e.2.2.2.1, e.2.2.2.2, e.2.2.1⟩
theorem NE.nodesP {l m : List ND} (h : NE l m) : nodesP true l m := ⟨h.len, fun i h1 h2 => h.at h1 h2⟩
theorem NE.hts {l m : List ND} (h : NE l m) : ∀ n, n ≤ l.length → hts l n = hts m n
 | 0, _ => rfl
 | n + 1, hn => by
  have hl := h.len
  have ih := NE.hts h n (by omega)
  have := h.at (i := n) (by omega) (by omega)
  simp only [Vs.hts, ih, List.getElem?_eq_getElem (show n < l.length by omega), List.getElem?_eq_getElem (show n < m.length by omega), this.2.2.2.2]
section
variable {tx : Nat → List UInt8}
/-- the same, with more fuel -/
theorem program_more {src : List UInt8} {T : List TK} (hL : T.length ≤ 65536) {f : Nat} (hf : fuelP T ≤ f) : pProgram tx src T f ⟨0, []⟩ = pProgram tx src T (fuelP T) ⟨0, []⟩ :=
 fuel_program hf _ (program_tree (tx := tx) (src := src) hL).1
/-- two readings, of sources of good tokens -/
theorem two_readings {s1 s2 : List UInt8} {T1 T2 : List TK} (h1 : T1.length ≤ 65536) (h2 : T2.length ≤ 65536) (m : Nat) (hm : ∀ i, i < m → tokR s1 s2 T1[i]? T2[i]?) :
  (Late s1 T1 m (pProgram tx s1 T1 (fuelP T1) ⟨0, []⟩) ∧ Late s2 T2 m (pProgram tx s2 T2 (fuelP T2) ⟨0, []⟩)) ∨
  (∃ i, i < m ∧ pProgram tx s1 T1 (fuelP T1) ⟨0, []⟩ = some (.error (plF s1 T1 i)) ∧ pProgram tx s2 T2 (fuelP T2) ⟨0, []⟩ = some (.error (plF s2 T2 i))) ∨
  (∃ v1 v2 t1 t2, pProgram tx s1 T1 (fuelP T1) ⟨0, []⟩ = some (.ok (v1, t1)) ∧ pProgram tx s2 T2 (fuelP T2) ⟨0, []⟩ = some (.ok (v2, t2)) ∧ NE t1.ns t2.ns) := by
 have q1 := (program_tree (tx := tx) (src := s1) h1).1
 have q2 := (program_tree (tx := tx) (src := s2) h2).1
 have := sim_program (p := ⟨s1, T1, s2, T2, m, hm⟩) (tx := tx) (fuelP T1 + fuelP T2) ⟨0, []⟩ ⟨0, []⟩ rfl rfl
 unfold SM at this
 simp only [program_more (tx := tx) (src := s1) h1 (show fuelP T1 ≤ fuelP T1 + fuelP T2 by omega), program_more (tx := tx) (src := s2) h2 (show fuelP T2 ≤ fuelP T1 + fuelP T2 by omega)] at this
 rcases this with h | h | h | h | ⟨v1, v2, t1, t2, a, b, _, _, c⟩
 ·exact absurd h q1
 ·exact absurd h q2
 ·exact .inl h
 ·exact .inr (.inl h)
 ·exact .inr (.inr ⟨v1, v2, t1, t2, a, b, c⟩)
/-- all tokens alike: the same, but for the places -/
theorem parse_alike {s1 s2 : List UInt8} (h1 : (scanF tx s1).2.2 = 0) (h2 : (scanF tx s2).2.2 = 0) (hl : (scanF tx s1).1.length = (scanF tx s2).1.length)
  (ht : ∀ i, i < (scanF tx s1).1.length → tokR s1 s2 (scanF tx s1).1[i]? (scanF tx s2).1[i]?) (nest : Int) :
  (parseF tx s1 nest).2.2 = (parseF tx s2 nest).2.2 ∧ nodesP true (parseF tx s1 nest).1 (parseF tx s2 nest).1 := by
 have hm : ∀ i, i < (scanF tx s1).1.length + 1 → tokR s1 s2 (scanF tx s1).1[i]? (scanF tx s2).1[i]? := by
  intro i hi
  by_cases c : i < (scanF tx s1).1.length
  ·exact ht i c
  ·rw [List.getElem?_eq_none (by omega), List.getElem?_eq_none (by omega)]; trivial
 have nil : nodesP true [] [] := ⟨rfl, fun i h => by simp at h⟩
 have k1 := program_tree (tx := tx) (src := s1) (tok_ok h1).len
 have k2 := program_tree (tx := tx) (src := s2) (tok_ok h2).len
 have two := two_readings (tx := tx) (tok_ok h1).len (tok_ok h2).len _ hm
 rcases parse_cases tx s1 with ⟨a, _⟩ | ⟨_, i, _, a3, a4⟩ | ⟨_, v, s, n, ts, a2, a3, a4, a5⟩
 ·exact absurd h1 a
 ·rcases parse_cases tx s2 with ⟨b, _⟩ | ⟨_, j, _, b3, b4⟩ | ⟨_, w, u, m, us, b2, b3, b4, b5⟩
  ·exact absurd h2 b
  ·rw [a4, b4]; exact ⟨rfl, nil⟩
  ·exfalso
   obtain ⟨_, _, c1, _, _⟩ := k2.2.1 _ _ b4
   rcases two with ⟨_, q⟩ | ⟨_, _, _, q⟩ | ⟨_, _, _, _, q, _, _⟩
   ·rw [b4] at q; simp only [Late] at q; omega
   ·rw [b4] at q; cases q
   ·rw [a3] at q; cases q
 ·rcases parse_cases tx s2 with ⟨b, _⟩ | ⟨_, j, _, b3, b4⟩ | ⟨_, w, u, m, us, b2, b3, b4, b5⟩
  ·exact absurd h2 b
  ·exfalso
   obtain ⟨_, _, c1, _, _⟩ := k1.2.1 _ _ a4
   rcases two with ⟨q, _⟩ | ⟨_, _, q, _⟩ | ⟨_, _, _, _, _, q, _⟩
   ·rw [a4] at q; simp only [Late] at q; omega
   ·rw [a4] at q; cases q
   ·rw [b3] at q; cases q
  ·have hne : NE s.ns u.ns := by
    obtain ⟨_, _, c1, _, _⟩ := k1.2.1 _ _ a4
    rcases two with ⟨q, _⟩ | ⟨_, _, q, _⟩ | ⟨_, _, _, _, q1, q2, q3⟩
    ·rw [a4] at q; simp only [Late] at q; omega
    ·rw [a4] at q; cases q
    ·rw [a4] at q1; rw [b4] at q2
     injection q1 with q1; injection q1 with q1; injection q1 with _ q1
     injection q2 with q2; injection q2 with q2; injection q2 with _ q2
     subst q1; subst q2; exact q3
   have hh : (TR.mk 46 0 [] n ts).hs = (TR.mk 46 0 [] m us).hs := by
    have e1 : hts s.ns s.ns.length = (TR.mk 46 0 [] n ts).hs := by rw [a2]; exact hts_tree _
    have e2 : hts u.ns u.ns.length = (TR.mk 46 0 [] m us).hs := by rw [b2]; exact hts_tree _
    rw [← e1, ← e2, ← hne.len]; exact hne.hts _ (Nat.le_refl _)
   have l1 : (TR.mk 46 0 [] n ts).hs.length = s.ns.length := by rw [a2, TR.hs_len, TR.flat_len]
   have l2 : (TR.mk 46 0 [] m us).hs.length = u.ns.length := by rw [b2, TR.hs_len, TR.flat_len]
   rw [a5, b5]
   cases d1 : deepF nest (TR.mk 46 0 [] n ts).hs s.ns with
   | none =>
    rw [(deepF_none l2).2 (by rw [← hh]; exact (deepF_none l1).1 d1)]
    exact ⟨rfl, hne.nodesP⟩
   | some x =>
    cases d2 : deepF nest (TR.mk 46 0 [] m us).hs u.ns with
    | none =>
     rw [(deepF_none l1).2 (by rw [hh]; exact (deepF_none l2).1 d2)] at d1; cases d1
    | some y => exact ⟨rfl, nil⟩
/-- what ParseBeginnings asks -/
structure BeginOk (tx : Nat → List UInt8) (src : List UInt8) (behind : List UInt8) : Prop where
 go : (parseF tx src 65536).2.2 = 30 → (parseF tx src 65536).2.1 < src.length → (scanF tx src).2.2 = 0 → ∃ i e : Nat, ∃ t : TK, (scanF tx src).1[i]? = some t ∧ t.at_ = (parseF tx src 65536).2.1 ∧ t.at_ + t.len = (e : Int) ∧ 0 < e ∧ e ≤ src.length ∧ 0 ≤ t.at_ ∧
  (∀ j u, j ≠ i → (scanF tx src).1[j]? = some u → u.at_ ≠ t.at_) ∧
  ((scanF tx (src.take e ++ 32 :: behind)).2.2 = 0 → (parseF tx (src.take e ++ 32 :: behind) 65536).2.1 = (parseF tx src 65536).2.1 ∧ (parseF tx (src.take e ++ 32 :: behind) 65536).2.2 = 30) ∧
  ((parseF tx (src.take t.at_.toNat) 65536).2.2 = 0 ∨ ((parseF tx (src.take t.at_.toNat) 65536).2.2 = 30 ∧ (parseF tx (src.take t.at_.toNat) 65536).2.1 = t.at_))
end
end Go.Proofs.Ytehmhhlhlipbnaa.Vs
