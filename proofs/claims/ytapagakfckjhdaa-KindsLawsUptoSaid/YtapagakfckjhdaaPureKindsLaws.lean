/-
  KindsLaws in plain words: being the same is an equivalence, is known by heads and kids, and does not change where a row is turned to one that is the same.
-/
import Derived.Test.YtapagakfckjhdaaSmqKindsLaws
import Derived.Test.YtapagakfckjhdaaOp43KindsLaws
set_option autoImplicit false
set_option linter.unusedVariables false
set_option linter.unusedSectionVars false
namespace Go.Proofs.Ytapagakfckjhdaa.PKindsLaws
open Go.RowKit Go.Proofs.YtapagakfckjhdaaW.PrintWords
theorem shown_ev : Ev (fun _ => squintlaw04_shown.f) true := Ev.now true
theorem among_ev {c n : Int} (hc : (Lit.int .i64 c).wf = true) (hn : 0 < n) : ∃ r, Ev (fun _ => squintlaw04_among.f c n) r ∧ 0 ≤ r ∧ r < n := by
  have hc' : -9223372036854775808 ≤ c ∧ c ≤ 9223372036854775807 := by simpa [Lit.wf, IntKind.min, IntKind.max, IntKind.signed, IntKind.bits] using hc
  unfold squintlaw04_among.f
  by_cases h0 : c < 0
  · have e : wrap64 (-(wrap64 (c + 1))) = -(c + 1) := by unfold wrap64; omega
    refine ⟨_, Ev.congr (fun _ => by rw [if_pos h0, if_neg (by omega), e]) (Ev.now (Int.tmod (-(c + 1)) n)), ?_, ?_⟩
    · exact Int.tmod_nonneg _ (by omega)
    · exact Int.tmod_lt_of_pos _ hn
  · refine ⟨_, Ev.congr (fun _ => by rw [if_neg h0, if_neg (by omega)]) (Ev.now (Int.tmod c n)), ?_, ?_⟩
    · exact Int.tmod_nonneg _ (by omega)
    · exact Int.tmod_lt_of_pos _ hn
theorem bool_iff {p q : Bool} (h : p = true ↔ q = true) : p = q := by cases p <;> cases q <;> simp_all
section
variable (l : List S43) (hv : validB l = true) (hn : l.length ≤ 1048576) (hk : ∀ x ∈ l, x.f1.length < 9223372036854775807) (a b c : Int) (ha : 0 ≤ a ∧ a < (l.length : Int)) (hb : 0 ≤ b ∧ b < (l.length : Int)) (hc : 0 ≤ c ∧ c < (l.length : Int))
  (bc ac : Bool) (hbc : bc = true ↔ SameP l ⟨b, c⟩) (hac : ac = true ↔ SameP l ⟨a, c⟩)
include hv hn hk ha hb hc hbc hac
theorem laws_end (hs : SameP l ⟨a, b⟩) (t : List S43) (h : Alike l t) : Ev (fun k => (kinds_Same.f k t c a).bind fun t171 => if (t171 == ac) = true then ((kinds_Same.f k t b c).bind fun t172 => (if (t172 == bc) = true then ((kinds_Same.f k t a b).bind fun t173 => (some t173)) else (some false))) else (some false)) true := by
  have hvt := h.valid hv
  have hnt : t.length ≤ 1048576 := by rw [h.len]; exact hn
  have hkt : ∀ x ∈ t, x.f1.length < 9223372036854775807 := fun x hx => by
    obtain ⟨i, hi, rfl⟩ := List.mem_iff_getElem.1 hx
    have hl : i < l.length := by rw [← h.len]; exact hi
    have := heads_len (h.head (i : Int) (by omega) (by omega))
    rw [rd43_get hl, rd43_get hi] at this
    rw [← this]
    exact hk _ (List.getElem_mem hl)
  obtain ⟨r1, e1, i1⟩ := same_ev t hvt hnt hkt (a := c) (b := a) (by rw [h.len]; exact ⟨hc.1, hc.2, ha.1, ha.2⟩)
  obtain ⟨r2, e2, i2⟩ := same_ev t hvt hnt hkt (a := b) (b := c) (by rw [h.len]; exact ⟨hb.1, hb.2, hc.1, hc.2⟩)
  obtain ⟨r3, e3, i3⟩ := same_ev t hvt hnt hkt (a := a) (b := b) (by rw [h.len]; exact ⟨ha.1, ha.2, hb.1, hb.2⟩)
  rw [h.same_iff hv ⟨hc.1, hc.2, ha.1, ha.2⟩] at i1
  rw [h.same_iff hv ⟨hb.1, hb.2, hc.1, hc.2⟩] at i2
  rw [h.same_iff hv ⟨ha.1, ha.2, hb.1, hb.2⟩] at i3
  have f1 : r1 = ac := bool_iff (i1.trans (Iff.trans ⟨fun h => h.turn, fun h => h.turn⟩ hac.symm))
  have f2 : r2 = bc := bool_iff (i2.trans hbc.symm)
  have f3 : r3 = true := i3.2 hs
  subst f1 f2 f3
  refine Ev.bind (f := fun k t171 => if (t171 == r1) = true then ((kinds_Same.f k t b c).bind fun t172 => (if (t172 == r2) = true then ((kinds_Same.f k t a b).bind fun t173 => (some t173)) else (some false))) else (some false)) e1 ?_
  refine Ev.congr (fun k => if_pos (by simp)) ?_
  refine Ev.bind (f := fun k t172 => if (t172 == r2) = true then ((kinds_Same.f k t a b).bind fun t173 => (some t173)) else (some false)) e2 ?_
  refine Ev.congr (fun k => if_pos (by simp)) ?_
  exact Ev.bind (f := fun k t173 => some t173) e3 (Ev.now true)
theorem laws_l2 (hs : SameP l ⟨a, b⟩) (i : Nat) (hi : i < l.length) (hnext : ∀ t, Alike l t → Ev (fun k => squintlaw04_KindsLaws.l1 k a b c (l.length : Int) bc ac t ((i + 1 : Nat) : Int)) true) : ∀ (d j : Nat) (t : List S43), Alike l t → j + d = (rd_T43 l (i : Int)).f1.length →
    Ev (fun k => squintlaw04_KindsLaws.l2 k a b c (l.length : Int) bc ac t (i : Int) (j : Int)) true
  | 0, j, t, h, hd => by
    have hlen := heads_len (h.head (i : Int) (by omega) (by omega))
    have hl := h.len
    refine Ev.step (fun k => ?_) (hnext t h)
    simp only [squintlaw04_KindsLaws.l2]
    rw [if_pos (by omega), if_pos (by omega), if_neg (by omega), wrap_succ (by omega)]
  | d + 1, j, t, h, hd => by
    have hlen := heads_len (h.head (i : Int) (by omega) (by omega))
    have hl := h.len
    have hkk := hk l[i] (List.getElem_mem hi)
    rw [← rd43_get hi] at hkk
    by_cases e : rd (rd_T43 t (i : Int)).f1 (j : Int) = a
    · by_cases e2 : Int.tmod (wrap64 ((i : Int) + (j : Int))) 2 = 0
      · refine Ev.step (fun k => ?_) (laws_l2 hs i hi hnext d (j + 1) _ (h.put hs hb hi (by omega) e) (by omega))
        simp only [squintlaw04_KindsLaws.l2]
        rw [if_pos (by omega), if_pos (by omega), if_pos (by omega), if_pos (by omega), if_pos e, if_pos e2, wrap_succ (by omega)]
        rfl
      · refine Ev.step (fun k => ?_) (laws_l2 hs i hi hnext d (j + 1) t h (by omega))
        simp only [squintlaw04_KindsLaws.l2]
        rw [if_pos (by omega), if_pos (by omega), if_pos (by omega), if_pos (by omega), if_pos e, if_neg e2, wrap_succ (by omega)]
    · refine Ev.step (fun k => ?_) (laws_l2 hs i hi hnext d (j + 1) t h (by omega))
      simp only [squintlaw04_KindsLaws.l2]
      rw [if_pos (by omega), if_pos (by omega), if_pos (by omega), if_pos (by omega), if_neg e, wrap_succ (by omega)]
theorem laws_l1 (hs : SameP l ⟨a, b⟩) : ∀ (d i : Nat) (t : List S43), Alike l t → i + d = l.length → Ev (fun k => squintlaw04_KindsLaws.l1 k a b c (l.length : Int) bc ac t (i : Int)) true
  | 0, i, t, h, hd => by
    refine Ev.step (fun k => ?_) (laws_end l hv hn hk a b c ha hb hc bc ac hbc hac hs t h)
    simp only [squintlaw04_KindsLaws.l1]
    rw [if_neg (by omega)]
  | d + 1, i, t, h, hd => by
    refine Ev.step (fun k => ?_) (laws_l2 l hv hn hk a b c ha hb hc bc ac hbc hac hs i (by omega) (fun t h => laws_l1 hs d (i + 1) t h (by omega)) (rd_T43 l (i : Int)).f1.length 0 t h (by omega))
    simp only [squintlaw04_KindsLaws.l1]
    rw [if_pos (by omega)]
    rfl
theorem laws_j4 (hnn : l.length < 3518437208883) (hkb : ∀ x ∈ l, x.f1.length < 17592186044416) (ab all : Bool) (hab : ab = true ↔ SameP l ⟨a, b⟩) (hall : all = true ↔ SameP l ⟨a, b⟩) : Ev (fun k => squintlaw04_KindsLaws.j4 k l a b c (l.length : Int) ab bc ac all) true := by
  have e : ab = all := bool_iff (hab.trans hall.symm)
  subst e
  cases hq : ab
  · refine Ev.step (f := fun _ => some true) (fun k => ?_) (Ev.now _)
    simp only [squintlaw04_KindsLaws.j4]
    rfl
  · have hs := hab.1 hq
    have ho : Ev (fun k => squintlaw04_ownRows.f k l) l := Ev.congr (fun k => by unfold squintlaw04_ownRows.f; rw [if_pos hnn, if_pos (List.all_eq_true.2 fun x hx => by simpa using hkb x hx)]) (Ev.now l)
    refine Ev.step (fun k => ?_) (Ev.bind (f := fun k t168 => squintlaw04_KindsLaws.l1 k a b c (l.length : Int) bc ac t168 0) ho (laws_l1 l hv hn hk a b c ha hb hc bc ac hbc hac hs l.length 0 l (Alike.refl hv) (by omega)))
    simp only [squintlaw04_KindsLaws.j4]
    rfl
theorem laws_l0 (hnn : l.length < 3518437208883) (hkb : ∀ x ∈ l, x.f1.length < 17592186044416) (ab : Bool) (hab : ab = true ↔ SameP l ⟨a, b⟩) (hh : headsB (rd_T43 l a) (rd_T43 l b) = true) : ∀ (d i : Nat) (acc : Bool), i + d = (rd_T43 l a).f1.length →
    (acc = true ↔ ∀ j : Nat, j < i → SameP l ⟨rd (rd_T43 l a).f1 (j : Int), rd (rd_T43 l b).f1 (j : Int)⟩) → Ev (fun k => squintlaw04_KindsLaws.l0 k l a b c (l.length : Int) ab bc ac true acc (i : Int)) true
  | 0, i, acc, hd, hacc => by
    refine Ev.step (fun k => ?_) (laws_j4 l hv hn hk a b c ha hb hc bc ac hbc hac hnn hkb ab acc hab (hacc.trans ⟨fun h => SameP.of_next hh (fun j hj => h j (by omega)), fun h j hj => h.next (by omega)⟩))
    simp only [squintlaw04_KindsLaws.l0]
    rw [if_pos trivial, if_pos ha.1, if_pos ha.2, if_neg (by omega)]
  | d + 1, i, acc, hd, hacc => by
    have hlen := heads_len hh
    have hkk : (rd_T43 l a).f1.length < 9223372036854775807 := by
      obtain ⟨n, rfl⟩ := Int.eq_ofNat_of_zero_le ha.1
      have hnl : n < l.length := by omega
      rw [rd43_get hnl]; exact hk _ (List.getElem_mem hnl)
    cases acc
    · refine Ev.step (fun k => ?_) (laws_l0 hnn hkb ab hab hh d (i + 1) false (by omega) ⟨fun h => (by cases h), fun h => absurd (hacc.2 fun j hj => h j (by omega)) (by simp)⟩)
      simp only [squintlaw04_KindsLaws.l0]
      rw [if_pos trivial, if_pos ha.1, if_pos ha.2, if_pos (by omega), if_neg (by simp), wrap_succ (by omega)]
    · have r0 := row_range hv ha.1 ha.2 (j := i) (by omega)
      have r1 := row_range hv hb.1 hb.2 (j := i) (by omega)
      obtain ⟨r, er, ir⟩ := same_ev l hv hn hk (a := rd (rd_T43 l a).f1 (i : Int)) (b := rd (rd_T43 l b).f1 (i : Int)) ⟨r0.1, r0.2, r1.1, r1.2⟩
      have hacc' := hacc.1 rfl
      refine Ev.step (fun k => ?_) (Ev.bind (f := fun k t167 => squintlaw04_KindsLaws.l0 k l a b c (l.length : Int) ab bc ac true t167 ((i + 1 : Nat) : Int)) er (laws_l0 hnn hkb ab hab hh d (i + 1) r (by omega) ⟨fun h j hj => ?_, fun h => ir.2 (h i (by omega))⟩))
      · simp only [squintlaw04_KindsLaws.l0]
        rw [if_pos trivial, if_pos ha.1, if_pos ha.2, if_pos (by omega), if_pos trivial, if_pos (by omega), if_pos hb.1, if_pos hb.2, if_pos (by omega), wrap_succ (by omega)]
      · by_cases e : j = i
        · subst e; exact ir.1 h
        · exact hacc' j (by omega)
theorem laws_j2 (hnn : l.length < 3518437208883) (hkb : ∀ x ∈ l, x.f1.length < 17592186044416) (ab : Bool) (hab : ab = true ↔ SameP l ⟨a, b⟩) (hd : Bool) (hhd : hd = headsB (rd_T43 l a) (rd_T43 l b)) : Ev (fun k => squintlaw04_KindsLaws.j2 k l a b c (l.length : Int) ab bc ac hd) true := by
  refine Ev.step (fun k => by simp only [squintlaw04_KindsLaws.j2]; rfl) ?_
  cases hh : headsB (rd_T43 l a) (rd_T43 l b)
  · rw [hh] at hhd
    subst hhd
    refine Ev.step (fun k => ?_) (laws_j4 l hv hn hk a b c ha hb hc bc ac hbc hac hnn hkb ab false hab ⟨fun h => (by cases h), fun h => by have := h.head; rw [hh] at this; cases this⟩)
    simp only [squintlaw04_KindsLaws.l0]
    rw [if_neg (by simp)]
  · rw [hh] at hhd
    subst hhd
    simpa using laws_l0 l hv hn hk a b c ha hb hc bc ac hbc hac hnn hkb ab hab hh (rd_T43 l a).f1.length 0 true (by omega) ⟨fun _ j hj => absurd hj (by omega), fun _ => rfl⟩
theorem laws_j1 (hnn : l.length < 3518437208883) (hkb : ∀ x ∈ l, x.f1.length < 17592186044416) (ab : Bool) (hab : ab = true ↔ SameP l ⟨a, b⟩) : Ev (fun k => squintlaw04_KindsLaws.j1 k l a b c (l.length : Int) ab bc ac false) true := by
  have hj2 := laws_j2 l hv hn hk a b c ha hb hc bc ac hbc hac hnn hkb ab hab
  by_cases e0 : (rd_T43 l a).f0 = (rd_T43 l b).f0
  · cases e2 : ((rd_T43 l a).f2 == (rd_T43 l b).f2)
    · refine Ev.step (fun k => ?_) (hj2 false (by unfold headsB; simp [e2]))
      simp only [squintlaw04_KindsLaws.j1]
      rw [if_neg (by simp), if_pos ha.1, if_pos ha.2, if_pos hb.1, if_pos hb.2, if_pos e0, e2, if_neg (by simp)]
    · refine Ev.step (fun k => ?_) (hj2 (((rd_T43 l a).f1.length : Int) == ((rd_T43 l b).f1.length : Int)) ?_)
      · simp only [squintlaw04_KindsLaws.j1]
        rw [if_neg (by simp), if_pos ha.1, if_pos ha.2, if_pos hb.1, if_pos hb.2, if_pos e0, e2, if_pos rfl]
      · unfold headsB
        rw [e2]
        simp only [e0, beq_self_eq_true, Bool.true_and, Bool.and_true]
        exact bool_iff (by simp only [beq_iff_eq]; omega)
  · refine Ev.step (fun k => ?_) (hj2 false (by unfold headsB; simp [e0]))
    simp only [squintlaw04_KindsLaws.j1]
    rw [if_neg (by simp), if_pos ha.1, if_pos ha.2, if_pos hb.1, if_pos hb.2, if_neg e0]
end
theorem pure (l : List S43) (a b c : Int) (h1 : l.length ≤ 1048576) (h2 : ∀ x ∈ l, x.f1.length ≤ 1048576) (ha : (Lit.int .i64 a).wf = true) (hb : (Lit.int .i64 b).wf = true) (hc : (Lit.int .i64 c).wf = true) :
    ∃ k, squintlaw04_KindsLaws.f k l a b c = some true := by
  have hk : ∀ x ∈ l, x.f1.length < 9223372036854775807 := fun x hx => by have := h2 x hx; omega
  refine Ev.rounds (r := true) ?_
  have hsh : Ev (fun k => squintlaw04_KindsLaws.j0 k l a b c (l.length : Int) true) true := by
    refine Ev.step (fun k => by simp only [squintlaw04_KindsLaws.j0]; rw [if_pos trivial]) (Ev.bind (f := fun _ t => some t) shown_ev (Ev.now true))
  by_cases e0 : (l.length : Int) = 0
  · exact Ev.congr (fun k => by unfold squintlaw04_KindsLaws.f; rw [if_pos e0]) hsh
  by_cases e1 : (l.length : Int) > 300
  · exact Ev.congr (fun k => by unfold squintlaw04_KindsLaws.f; rw [if_neg e0, if_pos e1]) hsh
  obtain ⟨bb, hbb⟩ := beyond_ev (l.map fun x => (x.f1.length : Int)) (by simp; omega)
  refine Ev.congr (fun k => by unfold squintlaw04_KindsLaws.f; rw [if_neg e0, if_neg e1]) (Ev.bind (ofRows_ev l (by omega)) (Ev.bind hbb ?_))
  cases bb
  · obtain ⟨a', ha', a0, a1⟩ := among_ev ha (n := (l.length : Int)) (by omega)
    obtain ⟨b', hb', b0, b1⟩ := among_ev hb (n := (l.length : Int)) (by omega)
    obtain ⟨c', hc', c0, c1⟩ := among_ev hc (n := (l.length : Int)) (by omega)
    refine Ev.step (fun k => by simp only [squintlaw04_KindsLaws.j0]; rw [if_neg (by simp)]) ?_
    refine Ev.bind (f := fun k t145 => ((squintlaw04_among.f a (l.length : Int)).bind fun t146 => ((squintlaw04_among.f b (l.length : Int)).bind fun t147 => ((squintlaw04_among.f c (l.length : Int)).bind fun t148 => ((kinds_Valid.f k l).bind fun t149 => (if t149 = true then ((kinds_Same.f k l t146 t147).bind fun t151 => ((kinds_Same.f k l t147 t148).bind fun t152 => ((kinds_Same.f k l t146 t148).bind fun t153 => (if t145 = true then ((kinds_Same.f k l t146 t146).bind fun t154 => (if t154 = true then ((kinds_Same.f k l t147 t146).bind fun t155 => (if (t155 != t151) = true then (squintlaw04_KindsLaws.j1 k l t146 t147 t148 (l.length : Int) t151 t152 t153 true) else (if t151 = true then (if t152 = true then (if t153 = true then (squintlaw04_KindsLaws.j1 k l t146 t147 t148 (l.length : Int) t151 t152 t153 false) else (squintlaw04_KindsLaws.j1 k l t146 t147 t148 (l.length : Int) t151 t152 t153 true)) else (squintlaw04_KindsLaws.j1 k l t146 t147 t148 (l.length : Int) t151 t152 t153 t153)) else (squintlaw04_KindsLaws.j1 k l t146 t147 t148 (l.length : Int) t151 t152 t153 false)))) else (squintlaw04_KindsLaws.j1 k l t146 t147 t148 (l.length : Int) t151 t152 t153 true))) else (squintlaw04_KindsLaws.j1 k l t146 t147 t148 (l.length : Int) t151 t152 t153 true))))) else (if t145 = true then ((kinds_Same.f k l t146 t146).bind fun t150 => (some (!t150))) else (some false)))))))) shown_ev (Ev.bind ha' (Ev.bind hb' (Ev.bind hc' (Ev.bind (valid_ev l (by omega) hk) ?_))))
    cases hv : validB l
    · refine Ev.congr (fun k => by rw [if_neg (by simp), if_pos rfl]) (Ev.bind (f := fun k t => some (!t)) (same_ev_no l (by omega) hk (.inl hv)) (Ev.now true))
    · obtain ⟨ab, eab, iab⟩ := same_ev l hv h1 hk (a := a') (b := b') ⟨a0, a1, b0, b1⟩
      obtain ⟨bc, ebc, ibc⟩ := same_ev l hv h1 hk (a := b') (b := c') ⟨b0, b1, c0, c1⟩
      obtain ⟨ac, eac, iac⟩ := same_ev l hv h1 hk (a := a') (b := c') ⟨a0, a1, c0, c1⟩
      obtain ⟨aa, eaa, iaa⟩ := same_ev l hv h1 hk (a := a') (b := a') ⟨a0, a1, a0, a1⟩
      obtain ⟨ba, eba, iba⟩ := same_ev l hv h1 hk (a := b') (b := a') ⟨b0, b1, a0, a1⟩
      have faa : aa = true := iaa.2 (SameP.same _ _)
      have fba : ba = ab := bool_iff (iba.trans (Iff.trans ⟨fun h => h.turn, fun h => h.turn⟩ iab.symm))
      subst faa fba
      refine Ev.congr (fun k => if_pos rfl) (Ev.bind eab (Ev.bind ebc (Ev.bind eac ?_)))
      refine Ev.congr (fun k => if_pos rfl) (Ev.bind eaa ?_)
      refine Ev.congr (fun k => if_pos rfl) (Ev.bind eba ?_)
      refine Ev.congr (fun k => if_neg (by simp)) ?_
      have hj := laws_j1 l hv h1 hk a' b' c' ⟨a0, a1⟩ ⟨b0, b1⟩ ⟨c0, c1⟩ bc ac ibc iac (by omega) (fun x hx => by have := h2 x hx; omega) ba iab
      cases hab : ba
      · rw [hab] at hj
        exact Ev.congr (fun k => if_neg (by simp)) hj
      · rw [hab] at hj
        refine Ev.congr (fun k => if_pos rfl) ?_
        have h1 := iab.1 hab
        cases hbc : bc
        · have hac : ac = false := by
            cases hq : ac
            · rfl
            · have := ibc.2 (h1.turn.thru (iac.1 hq))
              rw [hbc] at this
              cases this
          rw [hbc, hac] at hj
          rw [hac]
          exact Ev.congr (fun k => if_neg (by simp)) hj
        · have hac : ac = true := iac.2 (h1.thru (ibc.1 hbc))
          rw [hbc, hac] at hj
          rw [hac]
          exact Ev.congr (fun k => by rw [if_pos rfl, if_pos rfl]) hj
  · exact hsh
theorem law (l : List S43) (a b c : Int) (hB : (l.map B43).sum + 1 ≤ 1048576) (hG : ∀ x ∈ l, G43 x) (ha : (Lit.int .i64 a).wf = true) (hb : (Lit.int .i64 b).wf = true) (hc : (Lit.int .i64 c).wf = true) :
    ∃ k, squintlaw04_KindsLaws.f k l a b c = some true :=
  pure l a b c (by have := Opn.sum_len B43_one l; omega) (fun x hx => by have := Opn.sum_mem (f := B43) hx; have := B43_kids x; omega) ha hb hc
end Go.Proofs.Ytapagakfckjhdaa.PKindsLaws
