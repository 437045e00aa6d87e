/-
  KindsWays in plain words: no way tells two rows that are the same apart.
-/
import Derived.Test.YtapagakfckjhdaaSmKindsWays
import Derived.Test.YtapagakfckjhdaaOp43KindsWays
set_option autoImplicit false
set_option linter.unusedVariables false
namespace Go.Proofs.Ytapagakfckjhdaa.PKindsWays
open Go.RowKit Go.Proofs.YtapagakfckjhdaaW.PrintWords
theorem shown_ev : Ev (fun _ => squintlaw04_shown.f) true := Ev.now true
theorem among_ev {c n : Int} (hc : (Lit.int .i64 c).wf = true) (hn : 0 < n) : ∃ r, Ev (fun _ => squintlaw04_among.f c n) r ∧ 0 ≤ r ∧ r < n := by
  have hc' : -9223372036854775808 ≤ c ∧ c ≤ 9223372036854775807 := by simpa [Lit.wf, IntKind.min, IntKind.max, IntKind.signed, IntKind.bits] using hc
  unfold squintlaw04_among.f
  by_cases h0 : c < 0
  · have e : wrap64 (-(wrap64 (c + 1))) = -(c + 1) := by unfold wrap64; omega
    refine ⟨_, Ev.congr (fun _ => by rw [if_pos h0, if_neg (by omega), e]) (Ev.now (Int.tmod (-(c + 1)) n)), ?_, ?_⟩
    · exact Int.tmod_nonneg _ (by omega)
    · exact Int.tmod_lt_of_pos _ hn
  · refine ⟨_, Ev.congr (fun _ => by rw [if_neg h0, if_neg (by omega)]) (Ev.now (Int.tmod c n)), ?_, ?_⟩
    · exact Int.tmod_nonneg _ (by omega)
    · exact Int.tmod_lt_of_pos _ hn
theorem ways_l0 (l : List S43) (hv : validB l = true) (way : List Int) (hw : ∀ y ∈ way, (Lit.int .i64 y).wf = true) (hwl : way.length < 9223372036854775807) (s : Bool) : ∀ (d i : Nat) (a b : Int), i + d = way.length → inRange l.length ⟨a, b⟩ → (s = true → SameP l ⟨a, b⟩) →
    Ev (fun k => squintlaw04_KindsWays.l0 k l a b way true s (i : Int)) true := by
  intro d
  induction d with
  | zero =>
    intro i a b h hr hs
    exact step 0 i a b h hr hs (fun h => by omega)
  | succ d ih =>
    intro i a b h hr hs
    exact step (d + 1) i a b h hr hs (fun _ a' b' hr' hs' => ih (i + 1) a' b' (by omega) hr' hs')
where
  step (d i : Nat) (a b : Int) (h : i + d = way.length) (hr : inRange l.length ⟨a, b⟩) (hs : s = true → SameP l ⟨a, b⟩)
      (ih : i < way.length → ∀ a' b', inRange l.length ⟨a', b'⟩ → (s = true → SameP l ⟨a', b'⟩) → Ev (fun k => squintlaw04_KindsWays.l0 k l a' b' way true s ((i + 1 : Nat) : Int)) true) :
      Ev (fun k => squintlaw04_KindsWays.l0 k l a b way true s (i : Int)) true := by
    have hr0 := hr
    obtain ⟨h0, h1, h2, h3⟩ := hr
    simp only at h0 h1 h2 h3
    have hbad : headsB (rd_T43 l a) (rd_T43 l b) = false → Ev (fun k => squintlaw04_KindsWays.j2 k l a b way true s (i : Int) true) true := fun hh => by
      have hsf : s = false := by
        cases s
        · rfl
        · have := (hs rfl).head
          rw [hh] at this
          cases this
      refine Ev.step (f := fun _ => some true) (fun k => ?_) (Ev.now _)
      simp only [squintlaw04_KindsWays.j2]
      rw [if_pos trivial, if_pos trivial, hsf]
      rfl
    have hgood : headsB (rd_T43 l a) (rd_T43 l b) = true → Ev (fun k => squintlaw04_KindsWays.j2 k l a b way true s (i : Int) false) true := fun hh => by
      have hlen := heads_len hh
      by_cases hi : (i : Int) = (way.length : Int)
      · refine Ev.step (f := fun _ => some true) (fun k => ?_) (Ev.now _)
        simp only [squintlaw04_KindsWays.j2]
        rw [if_neg (by simp), if_pos hi]
      · by_cases hz : ((rd_T43 l a).f1.length : Int) = 0
        · refine Ev.step (f := fun _ => some true) (fun k => ?_) (Ev.now _)
          simp only [squintlaw04_KindsWays.j2]
          rw [if_neg (by simp), if_neg hi, if_pos h0, if_pos h1, if_pos hz]
        · have hil : i < way.length := by omega
          obtain ⟨t, ht, t0, t1⟩ := among_ev (c := rd way (i : Int)) (n := ((rd_T43 l a).f1.length : Int)) (hw _ (by rw [rd_get hil]; exact List.getElem_mem hil)) (by omega)
          obtain ⟨j, rfl⟩ := Int.eq_ofNat_of_zero_le t0
          refine Ev.step (fun k => ?_) (Ev.bind ht (f := fun k t => squintlaw04_KindsWays.l0 k l (rd (rd_T43 l a).f1 (j : Int)) (rd (rd_T43 l b).f1 (j : Int)) way true s ((i + 1 : Nat) : Int)) ?_)
          · simp only [squintlaw04_KindsWays.j2]
            rw [if_neg (by simp), if_neg hi, if_pos h0, if_pos h1, if_neg hz, if_pos (by omega), if_pos (by omega)]
            cases hq : squintlaw04_among.f (rd way (i : Int)) ((rd_T43 l a).f1.length : Int) with
            | none => rfl
            | some q =>
              have : q = (j : Int) := by
                obtain ⟨k0, hk0⟩ := ht
                have := hk0 k0 (Nat.le_refl _)
                rw [hq] at this
                injection this
              subst this
              simp only [Option.bind_some]
              rw [if_pos (by omega), if_pos (by omega), if_pos h2, if_pos h3, if_pos (by omega), wrap_succ (by omega)]
          · have hj : j < (rd_T43 l a).f1.length := by omega
            exact ih hil _ _ (succ_range hv hr0 hj (by simp only; omega)) (fun e => (hs e).on (.step j (.refl _) hj (by simp only; omega)))
    by_cases e0 : (rd_T43 l a).f0 = (rd_T43 l b).f0
    · cases e2 : ((rd_T43 l a).f2 != (rd_T43 l b).f2)
      · have e2' : (rd_T43 l a).f2 = (rd_T43 l b).f2 := by simpa using e2
        by_cases e1 : (rd_T43 l a).f1.length = (rd_T43 l b).f1.length
        · refine Ev.step (fun k => ?_) (hgood (by unfold headsB; simp [e0, e1, e2']))
          simp only [squintlaw04_KindsWays.l0]
          rw [if_pos (by omega), if_pos h0, if_pos h1, if_pos h2, if_pos h3, if_pos e0, e2, if_neg (by simp), e1]
          simp
        · refine Ev.step (fun k => ?_) (hbad (by unfold headsB; simp [e1]))
          simp only [squintlaw04_KindsWays.l0]
          rw [if_pos (by omega), if_pos h0, if_pos h1, if_pos h2, if_pos h3, if_pos e0, e2, if_neg (by simp)]
          rw [show (((rd_T43 l a).f1.length : Int) != ((rd_T43 l b).f1.length : Int)) = true from by simp only [bne_iff_ne, ne_eq]; omega]
      · have e2' : ¬ (rd_T43 l a).f2 = (rd_T43 l b).f2 := by simpa using e2
        refine Ev.step (fun k => ?_) (hbad (by unfold headsB; simp [e2']))
        simp only [squintlaw04_KindsWays.l0]
        rw [if_pos (by omega), if_pos h0, if_pos h1, if_pos h2, if_pos h3, if_pos e0, e2, if_pos rfl]
    · refine Ev.step (fun k => ?_) (hbad (by unfold headsB; simp [e0]))
      simp only [squintlaw04_KindsWays.l0]
      rw [if_pos (by omega), if_pos h0, if_pos h1, if_pos h2, if_pos h3, if_neg e0]
theorem pure (l : List S43) (a b : Int) (way : List Int) (h1 : l.length ≤ 1048576) (h2 : ∀ x ∈ l, x.f1.length ≤ 1048576) (h3 : way.length ≤ 1048576) (ha : (Lit.int .i64 a).wf = true) (hb : (Lit.int .i64 b).wf = true) (hw : ∀ y ∈ way, (Lit.int .i64 y).wf = true) :
    ∃ k, squintlaw04_KindsWays.f k l a b way = some true := by
  have hk : ∀ x ∈ l, x.f1.length < 9223372036854775807 := fun x hx => by have := h2 x hx; omega
  refine Ev.rounds (r := true) ?_
  have hsh : Ev (fun k => squintlaw04_KindsWays.j0 k l a b way (l.length : Int) true) true := by
    refine Ev.step (fun k => by simp only [squintlaw04_KindsWays.j0]; rw [if_pos trivial]) (Ev.bind (f := fun _ t => some t) shown_ev (Ev.now true))
  by_cases e0 : (l.length : Int) = 0
  · exact Ev.congr (fun k => by unfold squintlaw04_KindsWays.f; rw [if_pos e0]) hsh
  by_cases e1 : (l.length : Int) > 300
  · exact Ev.congr (fun k => by unfold squintlaw04_KindsWays.f; rw [if_neg e0, if_pos e1]) hsh
  obtain ⟨bb, hbb⟩ := beyond_ev (l.map fun x => (x.f1.length : Int)) (by simp; omega)
  refine Ev.congr (fun k => by unfold squintlaw04_KindsWays.f; rw [if_neg e0, if_neg e1]) (Ev.bind (ofRows_ev l (by omega)) (Ev.bind hbb ?_))
  cases bb
  · obtain ⟨a', ha', a0, a1⟩ := among_ev ha (n := (l.length : Int)) (by omega)
    obtain ⟨b', hb', b0, b1⟩ := among_ev hb (n := (l.length : Int)) (by omega)
    refine Ev.step (fun k => by simp only [squintlaw04_KindsWays.j0]; rw [if_neg (by simp)]) (Ev.bind (f := fun k t126 => (squintlaw04_among.f a (l.length : Int)).bind fun t127 => ((squintlaw04_among.f b (l.length : Int)).bind fun t128 => ((kinds_Valid.f k l).bind fun t129 => (if t129 = true then ((kinds_Same.f k l t127 t128).bind fun t130 => (squintlaw04_KindsWays.l0 k l t127 t128 way t126 t130 0)) else (some t126))))) shown_ev (Ev.bind ha' (Ev.bind hb' (Ev.bind (valid_ev l (by omega) hk) ?_))))
    cases hv : validB l
    · exact Ev.congr (fun k => if_neg (by simp)) (Ev.now true)
    · obtain ⟨s, hs, hsi⟩ := same_ev l hv h1 hk (a := a') (b := b') ⟨a0, a1, b0, b1⟩
      refine Ev.congr (fun k => if_pos rfl) (Ev.bind hs ?_)
      have := ways_l0 l hv way hw (by omega) s way.length 0 a' b' (by omega) ⟨a0, a1, b0, b1⟩ hsi.1
      simpa using this
  · exact hsh
theorem law (l : List S43) (a b : Int) (way : List Int) (hB : (l.map B43).sum + 1 ≤ 1048576) (hG : ∀ x ∈ l, G43 x) (ha : (Lit.int .i64 a).wf = true) (hb : (Lit.int .i64 b).wf = true) (hB3 : (way.map fun _ => 1).sum + 1 ≤ 1048576) (hG3 : ∀ y ∈ way, (Lit.int .i64 y).wf = true) :
    ∃ k, squintlaw04_KindsWays.f k l a b way = some true :=
  pure l a b way (by have := Opn.sum_len B43_one l; omega) (fun x hx => by have := Opn.sum_mem (f := B43) hx; have := B43_kids x; omega) (by rw [Opn.sum_ones] at hB3; omega) ha hb hG3
end Go.Proofs.Ytapagakfckjhdaa.PKindsWays
