/-
  Tokens that are alike are read alike; a source that is refused at a token, and what is ahead of it.
-/
import Derived.Test.YtehmhhlhlipbnaaPlain3
import Derived.Test.YtehmhhlhlipbnaaPlain4
import Derived.Test.YtehmhhlhlipbnaaPlain5
set_option autoImplicit false
set_option linter.unusedVariables false
set_option linter.unusedSimpArgs false
namespace Go.Proofs.Ytehmhhlhlipbnaa.Vs
open Go.VI Go.Proofs
theorem NE.at {l m : List ND} (h : NE l m) {i : Nat} (h1 : i < l.length) (h2 : i < m.length) : nodeP true l[i] m[i] := by
  have e : (l.map strip)[i]'(by simpa using h1) = (m.map strip)[i]'(by simpa using h2) := by
    have := h; unfold NE at this
    simp only [this]
  simp only [List.getElem_map, strip, ND.mk.injEq] at e
  exact ⟨e.1, .inl rfl, e.2.2.2.1, e.2.2.2.2, e.2.2.1⟩
theorem NE.nodesP {l m : List ND} (h : NE l m) : nodesP true l m := ⟨h.len, fun i h1 h2 => h.at h1 h2⟩
theorem NE.hts {l m : List ND} (h : NE l m) : ∀ n, n ≤ l.length → hts l n = hts m n
  | 0, _ => rfl
  | n + 1, hn => by
    have hl := h.len
    have ih := NE.hts h n (by omega)
    have := h.at (i := n) (by omega) (by omega)
    simp only [Vs.hts, ih, List.getElem?_eq_getElem (show n < l.length by omega), List.getElem?_eq_getElem (show n < m.length by omega), this.2.2.2.2]
section
variable {tx : Nat → List UInt8}
/-- the same, with more fuel -/
theorem program_more {src : List UInt8} {T : List TK} (hL : T.length ≤ 65536) {f : Nat} (hf : fuelP T ≤ f) : pProgram tx src T f ⟨0, []⟩ = pProgram tx src T (fuelP T) ⟨0, []⟩ :=
  fuel_program hf _ (program_tree (tx := tx) (src := src) hL).1
/-- two readings, of sources of good tokens -/
theorem two_readings {s1 s2 : List UInt8} {T1 T2 : List TK} (h1 : T1.length ≤ 65536) (h2 : T2.length ≤ 65536) (m : Nat) (hm : ∀ i, i < m → tokR s1 s2 T1[i]? T2[i]?) :
    (Late s1 T1 m (pProgram tx s1 T1 (fuelP T1) ⟨0, []⟩) ∧ Late s2 T2 m (pProgram tx s2 T2 (fuelP T2) ⟨0, []⟩)) ∨
    (∃ i, i < m ∧ pProgram tx s1 T1 (fuelP T1) ⟨0, []⟩ = some (.error (plF s1 T1 i)) ∧ pProgram tx s2 T2 (fuelP T2) ⟨0, []⟩ = some (.error (plF s2 T2 i))) ∨
    (∃ v1 v2 t1 t2, pProgram tx s1 T1 (fuelP T1) ⟨0, []⟩ = some (.ok (v1, t1)) ∧ pProgram tx s2 T2 (fuelP T2) ⟨0, []⟩ = some (.ok (v2, t2)) ∧ NE t1.ns t2.ns) := by
  have q1 := (program_tree (tx := tx) (src := s1) h1).1
  have q2 := (program_tree (tx := tx) (src := s2) h2).1
  have := sim_program (p := ⟨s1, T1, s2, T2, m, hm⟩) (tx := tx) (fuelP T1 + fuelP T2) ⟨0, []⟩ ⟨0, []⟩ rfl rfl
  unfold SM at this
  simp only [program_more (tx := tx) (src := s1) h1 (show fuelP T1 ≤ fuelP T1 + fuelP T2 by omega), program_more (tx := tx) (src := s2) h2 (show fuelP T2 ≤ fuelP T1 + fuelP T2 by omega)] at this
  rcases this with h | h | h | h | ⟨v1, v2, t1, t2, a, b, _, _, c⟩
  · exact absurd h q1
  · exact absurd h q2
  · exact .inl h
  · exact .inr (.inl h)
  · exact .inr (.inr ⟨v1, v2, t1, t2, a, b, c⟩)
theorem inc_at {T : List TK} {a : Nat} (h : Inc a T) {i j : Nat} (hij : i < j) (hj : j < T.length) : T[i].at_ + T[i].len ≤ T[j].at_ := h.lt i j hij (by omega) hj
/-- places rise -/
theorem plF_lt {src : List UInt8} {T : List TK} (h : Inc src.length T) {i j : Nat} (hij : i < j) (hi : i < T.length) : plF src T i < plF src T j := by
  have h1 := h.all i hi
  rw [plF_at hi]
  by_cases c : j < T.length
  · rw [plF_at c]; have := inc_at h hij c; omega
  · rw [plF_no c]; omega
theorem inc_count {a : Nat} : ∀ {T : List TK}, Inc a T → ∀ i, (h : i < T.length) → (i : Int) ≤ T[i].at_
  | [], _, i, h => by simp at h
  | [t], h, i, hi => by
    have : i = 0 := by simpa using hi
    subst this
    have := h.1; simpa using this
  | t :: u :: r, h, 0, _ => by have := h.1; simpa using this
  | t :: u :: r, h, i + 1, hi => by
    obtain ⟨h1, h2, h3, h4⟩ := h
    have hlt := Inc.lt (l := t :: u :: r) ⟨h1, h2, h3, h4⟩
    have key : ∀ k, (hk : k < (t :: u :: r).length) → (k : Int) ≤ (t :: u :: r)[k].at_ := by
      intro k
      induction k with
      | zero => intro _; have := h1; simpa using this
      | succ k ih =>
        intro hk
        have a1 := ih (by omega)
        have a2 := hlt k (k + 1) (by omega) (by omega) hk
        have a3 := (Inc.all (l := t :: u :: r) ⟨h1, h2, h3, h4⟩ k (by omega)).2.1
        omega
    exact key (i + 1) hi
/-- what ParseBeginnings asks -/
structure BeginOk (tx : Nat → List UInt8) (src : List UInt8) (behind : List UInt8) : Prop where
  go : (parseF tx src 65536).2.2 = 30 → (parseF tx src 65536).2.1 < src.length → (scanF tx src).2.2 = 0 → ∃ i e : Nat, ∃ t : TK, (scanF tx src).1[i]? = some t ∧ t.at_ = (parseF tx src 65536).2.1 ∧ t.at_ + t.len = (e : Int) ∧ 0 < e ∧ e ≤ src.length ∧ 0 ≤ t.at_ ∧
    (∀ j u, j ≠ i → (scanF tx src).1[j]? = some u → u.at_ ≠ t.at_) ∧
    ((scanF tx (src.take e ++ 32 :: behind)).2.2 = 0 → (parseF tx (src.take e ++ 32 :: behind) 65536).2.1 = (parseF tx src 65536).2.1 ∧ (parseF tx (src.take e ++ 32 :: behind) 65536).2.2 = 30) ∧
    ((parseF tx (src.take t.at_.toNat) 65536).2.2 = 0 ∨ ((parseF tx (src.take t.at_.toNat) 65536).2.2 = 30 ∧ (parseF tx (src.take t.at_.toNat) 65536).2.1 = t.at_))
theorem tkF_cut {src r : List UInt8} {e : Nat} (he : e ≤ src.length) {t : TK} (h0 : 0 ≤ t.at_) (h1 : 0 ≤ t.len) (h : t.at_ + t.len ≤ e) : tkF (src.take e ++ r) t = tkF src t := by
  unfold tkF
  rw [drop_cut (by omega) he, List.take_append_of_le_length (by simp; omega), List.take_take, Nat.min_eq_left (by omega)]
theorem begin_ok (hb : ∀ k, k < 67 → ∀ c ∈ tx k, isBla c = false) (src behind : List UInt8) : BeginOk tx src behind := by
  refine ⟨fun hc hlt hs => ?_⟩
  obtain ⟨hinc, hlen, _, h65⟩ := scanF_inc hs
  obtain ⟨hscn, _, _⟩ := scanF_scn hs
  have hTl := (tok_ok hs).len
  -- the fault is at a token
  obtain ⟨i, hi, hp, hat⟩ : ∃ i, i < (scanF tx src).1.length ∧ pProgram tx src (scanF tx src).1 (fuelP (scanF tx src).1) ⟨0, []⟩ = some (.error (plF src (scanF tx src).1 i)) ∧ (parseF tx src 65536).2.1 = plF src (scanF tx src).1 i := by
    rcases parse_cases tx src with ⟨a, _⟩ | ⟨_, i, _, a3, a4⟩ | ⟨_, v, s, n, ts, a2, a3, a4, a5⟩
    · exact absurd hs a
    · refine ⟨i, ?_, a3, by rw [a4]⟩
      rw [a4] at hlt
      apply Classical.byContradiction; intro c
      rw [plF_no c] at hlt; simp only at hlt; omega
    · rw [a5] at hc
      cases hd : deepF 65536 (TR.mk 46 0 [] n ts).hs s.ns with
      | none => rw [hd] at hc; simp at hc
      | some a => rw [hd] at hc; simp at hc
  generalize hT : (scanF tx src).1 = T at *
  have hpl := plF_at (src := src) hi
  have hall := hinc.all i hi
  -- the steps up to it
  obtain ⟨c, n, c1, ⟨c2, c3, c4⟩, c5, c6, c7, c8⟩ := hscn.split (T.take i) T[i] (T.drop (i + 1)) (by rw [← List.drop_eq_getElem_cons hi, List.take_append_drop])
  have hca : T[i].at_ = (c : Int) := by rw [c7]
  have hcl : T[i].len = (n : Int) := by rw [c7]; exact c6
  have hn1 : 1 ≤ n := by omega
  have hce : c + n ≤ src.length := by omega
  have hget : T[i]? = some T[i] := List.getElem?_eq_getElem hi
  have hsame : ∀ (r : List UInt8) (e : Nat), e ≤ src.length → ∀ j, j < i → (hj : j < T.length) → T[j].at_ + T[j].len ≤ e → tokR src (src.take e ++ r) (some T[j]) (some T[j]) := by
    intro r e he j _ hj hle
    have := hinc.all j hj
    exact ⟨rfl, rfl, fun _ => (tkF_cut he (by omega) (by omega) hle).symm⟩
  have hbefore : ∀ j, j < i → (hj : j < T.length) → T[j].at_ + T[j].len ≤ c := fun j hji hj => by
    have := inc_at hinc hji hi; omega
  have hnot : ∀ j, j ≠ i → plF src T j ≠ plF src T i := by
    intro j hj
    rcases Nat.lt_or_gt_of_ne hj with h | h
    · have := plF_lt hinc h (by omega); omega
    · have := plF_lt hinc h hi; omega
  refine ⟨i, c + n, T[i], hget, by rw [hat, hpl], by rw [hca, hcl]; simp, by omega, hce, by omega, ?_, ?_, ?_⟩
  · intro j u hj hu
    obtain ⟨hj2, rfl⟩ := List.getElem?_eq_some_iff.1 hu
    have := hnot j hj
    rw [plF_at hj2, hpl] at this
    exact this
  · intro hz
    -- the longer source begins with the same tokens
    have hr : BlaR (32 :: behind) := .inr ⟨32, behind, rfl, by decide⟩
    have hscn2 : Scn tx (src.take (c + n) ++ 32 :: behind) 0 (T.take i ++ [T[i]]) (c + n) := by
      refine (c1.cut hb hr hce (by omega) (.inl (by omega))).trans ?_
      have ht : tokF tx ((src.take (c + n) ++ 32 :: behind).drop c) = tokF tx (src.drop c) := by
        rw [drop_cut (by omega) hce]
        exact tok_cut hb c5 c6 hn1 (by omega) (by simp; omega) hr
      have hl : c < (src.take (c + n) ++ 32 :: behind).length := by simp; omega
      have := Scn.tok (tx := tx) (src := src.take (c + n) ++ 32 :: behind) (a := c) (b := c + n) (n := n) (l := []) hl (by rw [get_cut hce (by omega) hl]; exact c3) (by rw [get_cut hce (by omega) hl]; exact c4) (by rw [ht]; exact c5) (by rw [ht]; exact c6) (.nil _)
      rw [ht, ← c7] at this; exact this
    obtain ⟨m, hm⟩ := scn_begin hscn2 hz
    have hT2 := (tok_ok hz).len
    have hinc2 := (scanF_inc hz).1
    generalize hTT : (scanF tx (src.take (c + n) ++ 32 :: behind)).1 = T2 at *
    have hg2 : ∀ j, j < i + 1 → T2[j]? = T[j]? := by
      intro j hj
      rw [hm, List.getElem?_append_left (by simp; omega)]
      by_cases q : j < i
      · rw [List.getElem?_append_left (by simp; omega), List.getElem?_take_of_lt q]
      · obtain rfl : j = i := by omega
        rw [List.getElem?_append_right (by rw [List.length_take]; omega)]
        simp only [List.length_take, Nat.min_eq_left (Nat.le_of_lt hi), Nat.sub_self, List.getElem?_cons_zero, hget]
    have two := two_readings (tx := tx) (s1 := src) (s2 := src.take (c + n) ++ 32 :: behind) (T1 := T) (T2 := T2) hTl hT2 (i + 1) (fun j hj => by
      rw [hg2 j hj]
      have hjl : j < T.length := by omega
      rw [List.getElem?_eq_getElem hjl]
      have := hinc.all j hjl
      refine ⟨rfl, rfl, fun _ => (tkF_cut hce (by omega) (by omega) ?_).symm⟩
      by_cases q : j < i
      · have := hbefore j q hjl; omega
      · obtain rfl : j = i := by omega
        omega)
    have hres : pProgram tx (src.take (c + n) ++ 32 :: behind) T2 (fuelP T2) ⟨0, []⟩ = some (.error T[i].at_) := by
      rcases two with ⟨q, _⟩ | ⟨j, hj, q1, q2⟩ | ⟨_, _, _, _, q, _, _⟩
      · rw [hp] at q
        obtain ⟨j, hj, e⟩ := q
        exact absurd e.symm (hnot j (by omega))
      · rw [hp] at q1
        injection q1 with q1; injection q1 with q1
        have hji : j = i := Classical.byContradiction fun h => hnot j h q1.symm
        subst hji
        rw [q2]
        have h2 : j < T2.length := by
          apply Classical.byContradiction; intro h
          have := hg2 j (by omega)
          rw [List.getElem?_eq_none (by omega), hget] at this; cases this
        have e : T2[j] = T[j] := by
          have := hg2 j (by omega)
          rw [List.getElem?_eq_getElem h2, hget] at this
          injection this
        rw [plF_at h2, e]
      · rw [hp] at q; cases q
    have := parseF_bad (nest := 65536) hz (by rw [hTT]; exact hres)
    rw [this, hat, hpl]
    exact ⟨rfl, rfl⟩
  · -- what is ahead of it
    have hctn : T[i].at_.toNat = c := by rw [hca]; simp
    rw [hctn]
    have hcl2 : c ≤ src.length := by omega
    have hne : ((src[c].toNat : Nat) : Int) ≠ 10 := by
      intro h
      unfold isBla at c3
      exact (of_decide_eq_false c3) (.inr (.inl h))
    have hscn3 := c1.cut hb (r := []) (.inl rfl) hcl2 (Nat.le_refl _) (.inr ⟨c2, hne⟩)
    rw [List.append_nil] at hscn3
    have hlt3 : (src.take c).length = c := by simp; omega
    have hsc3 : scanF tx (src.take c) = (T.take i, 0, 0) := scn_scanF (by rw [hlt3]; exact hscn3) (by omega)
    have hz3 : (scanF tx (src.take c)).2.2 = 0 := by rw [hsc3]
    have hcount := inc_count hinc i hi
    have two := two_readings (tx := tx) (s1 := src) (s2 := src.take c) (T1 := T) (T2 := T.take i) hTl (by simp; omega) i (fun j hj => by
      have hjl : j < T.length := by omega
      rw [List.getElem?_take_of_lt hj, List.getElem?_eq_getElem hjl]
      have := hsame [] c hcl2 j hj hjl (hbefore j hj hjl)
      rw [List.append_nil] at this; exact this)
    have hlate : Late (src.take c) (T.take i) i (pProgram tx (src.take c) (T.take i) (fuelP (T.take i)) ⟨0, []⟩) := by
      rcases two with ⟨_, q⟩ | ⟨j, hj, q1, q2⟩ | ⟨_, _, _, _, q, _, _⟩
      · exact q
      · rw [hp] at q1
        injection q1 with q1; injection q1 with q1
        exact absurd q1.symm (hnot j (by omega))
      · rw [hp] at q; cases q
    rcases parse_cases tx (src.take c) with ⟨a, _⟩ | ⟨_, j, _, a3, a4⟩ | ⟨_, v, s, m, ts, a2, a3, a4, a5⟩
    · exact absurd hz3 a
    · rw [hsc3] at a3 a4
      rw [a3] at hlate
      obtain ⟨k, hk, e⟩ := hlate
      refine .inr ?_
      rw [a4]
      refine ⟨rfl, ?_⟩
      simp only
      rw [e, plF_no (by simp; omega), hlt3, hca]
    · rw [hsc3] at a3
      have hht := TR.ht_sz (TR.mk 46 0 [] m ts)
      simp only [TR.sz, List.length_take, Nat.min_eq_left (Nat.le_of_lt hi)] at hht a3
      refine .inl ?_
      rw [a5, (deepF_none (by rw [a2, TR.hs_len, TR.flat_len])).2 (fun x hx => by have := TR.hs_le _ x hx; omega)]
end
end Go.Proofs.Ytehmhhlhlipbnaa.Vs
