/-
  Being the same is an equivalence; and a table turned among rows that are the same tells them apart no better.
-/
import Derived.Test.YtapagakfckjhdaaSmKindsSame
set_option autoImplicit false
set_option linter.unusedVariables false
set_option linter.unusedSimpArgs false
namespace Go.Proofs.Ytapagakfckjhdaa.PKindsSame
open Go.RowKit Go.Proofs.YtapagakfckjhdaaW.PrintWords

theorem heads_refl (x : S43) : headsB x x = true := by unfold headsB; simp
theorem heads_symm {x y : S43} (h : headsB x y = true) : headsB y x = true := by
  unfold headsB at h ⊢
  simp only [Bool.and_eq_true, beq_iff_eq] at h ⊢
  exact ⟨h.1.symm, h.2.1.symm, h.2.2.symm⟩
theorem heads_trans {x y z : S43} (h : headsB x y = true) (k : headsB y z = true) : headsB x z = true := by
  unfold headsB at h k ⊢
  simp only [Bool.and_eq_true, beq_iff_eq] at h k ⊢
  exact ⟨h.1.trans k.1, h.2.1.trans k.2.1, h.2.2.trans k.2.2⟩
theorem SameP.next {l : List S43} {x y : Int} (h : SameP l ⟨x, y⟩) {i : Nat} (hx : i < (rd_T43 l x).f1.length) : SameP l ⟨rd (rd_T43 l x).f1 (i : Int), rd (rd_T43 l y).f1 (i : Int)⟩ :=
  h.on (.step i (.refl _) hx (by have := heads_len h.head; simp only at this ⊢; omega))
theorem SameP.same (l : List S43) (x : Int) : SameP l ⟨x, x⟩ :=
  SameP.of_closed (fun q => q.f0 = q.f1) (fun q h => by rw [h]; exact heads_refl _) (fun q h i _ _ => by unfold succOf; rw [h]) rfl
theorem SameP.turn {l : List S43} {x y : Int} (h : SameP l ⟨x, y⟩) : SameP l ⟨y, x⟩ :=
  SameP.of_closed (fun q => SameP l ⟨q.f1, q.f0⟩) (fun q h => heads_symm h.head) (fun q h i hx hy => by unfold succOf; exact h.next hy) h
theorem SameP.thru {l : List S43} {x y z : Int} (h : SameP l ⟨x, y⟩) (k : SameP l ⟨y, z⟩) : SameP l ⟨x, z⟩ :=
  SameP.of_closed (fun q => ∃ m, SameP l ⟨q.f0, m⟩ ∧ SameP l ⟨m, q.f1⟩) (fun q ⟨m, h1, h2⟩ => heads_trans h1.head h2.head)
    (fun q ⟨m, h1, h2⟩ i hx hy => by
      have := heads_len h1.head
      simp only at this
      unfold succOf
      exact ⟨rd (rd_T43 l m).f1 (i : Int), h1.next hx, h2.next (by omega)⟩) ⟨y, h, k⟩
theorem SameP.of_next {l : List S43} {x y : Int} (hh : headsB (rd_T43 l x) (rd_T43 l y) = true) (h : ∀ i : Nat, i < (rd_T43 l x).f1.length → SameP l ⟨rd (rd_T43 l x).f1 (i : Int), rd (rd_T43 l y).f1 (i : Int)⟩) : SameP l ⟨x, y⟩ :=
  SameP.of_closed (fun q => q = ⟨x, y⟩ ∨ SameP l q) (fun q h => by
    rcases h with rfl | h
    · exact hh
    · exact h.head) (fun q hq i hx hy => by
    rcases hq with rfl | hq
    · exact .inr (h i hx)
    · exact .inr (hq.on (.step i (.refl _) hx hy))) (.inl rfl)
/-- A table like another but for kids that are the same there. -/
structure Alike (l t : List S43) : Prop where
  len : t.length = l.length
  head : ∀ x : Int, 0 ≤ x → x < l.length → headsB (rd_T43 l x) (rd_T43 t x) = true
  kid : ∀ x : Int, 0 ≤ x → x < l.length → ∀ i : Nat, i < (rd_T43 l x).f1.length → SameP l ⟨rd (rd_T43 l x).f1 (i : Int), rd (rd_T43 t x).f1 (i : Int)⟩
  range : ∀ x : Int, 0 ≤ x → x < l.length → ∀ i : Nat, i < (rd_T43 l x).f1.length → 0 ≤ rd (rd_T43 t x).f1 (i : Int) ∧ rd (rd_T43 t x).f1 (i : Int) < (l.length : Int)
theorem Alike.refl {l : List S43} (hv : validB l = true) : Alike l l :=
  ⟨rfl, fun x _ _ => heads_refl _, fun x _ _ i _ => SameP.same _ _, fun x h0 h1 i hi => row_range hv h0 h1 hi⟩
theorem Alike.back {l t : List S43} (hv : validB l = true) (h : Alike l t) {x y : Int} (hr : inRange l.length ⟨x, y⟩) (hs : SameP l ⟨x, y⟩) : SameP t ⟨x, y⟩ := by
  refine SameP.of_closed (fun q => inRange l.length q ∧ SameP l q) ?_ ?_ ⟨hr, hs⟩
  · rintro q ⟨⟨h0, h1, h2, h3⟩, hq⟩
    exact heads_trans (heads_symm (h.head _ h0 h1)) (heads_trans hq.head (h.head _ h2 h3))
  · rintro q ⟨⟨h0, h1, h2, h3⟩, hq⟩ i hx hy
    have e0 := heads_len (h.head _ h0 h1)
    have e1 := heads_len (h.head _ h2 h3)
    have r0 := h.range _ h0 h1 i (by omega)
    have r1 := h.range _ h2 h3 i (by omega)
    refine ⟨⟨r0.1, r0.2, r1.1, r1.2⟩, ?_⟩
    unfold succOf
    have hq' : SameP l ⟨q.f0, q.f1⟩ := hq
    exact (h.kid _ h0 h1 i (by omega)).turn.thru ((hq'.next (by omega)).thru (h.kid _ h2 h3 i (by omega)))
theorem Alike.forth {l t : List S43} (hv : validB l = true) (h : Alike l t) {x y : Int} (hr : inRange l.length ⟨x, y⟩) (hs : SameP t ⟨x, y⟩) : SameP l ⟨x, y⟩ := by
  refine SameP.of_closed (fun q => ∃ p : S59, inRange l.length p ∧ SameP t ⟨p.f0, p.f1⟩ ∧ SameP l ⟨q.f0, p.f0⟩ ∧ SameP l ⟨p.f1, q.f1⟩) ?_ ?_ ⟨⟨x, y⟩, hr, hs, SameP.same _ _, SameP.same _ _⟩
  · rintro q ⟨p, ⟨h0, h1, h2, h3⟩, ht, ha, hb⟩
    exact heads_trans ha.head (heads_trans (h.head _ h0 h1) (heads_trans ht.head (heads_trans (heads_symm (h.head _ h2 h3)) hb.head)))
  · rintro q ⟨p, ⟨h0, h1, h2, h3⟩, ht, ha, hb⟩ i hx hy
    have e0 := heads_len (h.head _ h0 h1)
    have e1 := heads_len (h.head _ h2 h3)
    have e2 := heads_len ha.head
    have e3 := heads_len hb.head
    simp only at e2 e3
    have r0 := h.range _ h0 h1 i (by omega)
    have r1 := h.range _ h2 h3 i (by omega)
    refine ⟨⟨rd (rd_T43 t p.f0).f1 (i : Int), rd (rd_T43 t p.f1).f1 (i : Int)⟩, ⟨r0.1, r0.2, r1.1, r1.2⟩, ht.next (by omega), ?_, ?_⟩
    · exact (ha.next hx).thru (h.kid _ h0 h1 i (by omega))
    · exact (h.kid _ h2 h3 i (by omega)).turn.thru (hb.next (by omega))
theorem Alike.same_iff {l t : List S43} (hv : validB l = true) (h : Alike l t) {x y : Int} (hr : inRange l.length ⟨x, y⟩) : SameP t ⟨x, y⟩ ↔ SameP l ⟨x, y⟩ := ⟨h.forth hv hr, h.back hv hr⟩
theorem Alike.valid {l t : List S43} (hv : validB l = true) (h : Alike l t) : validB t = true := by
  refine List.all_eq_true.2 fun x hx => ?_
  obtain ⟨i, hi, rfl⟩ := List.mem_iff_getElem.1 hx
  have hl : i < l.length := by rw [← h.len]; exact hi
  have hh := h.head (i : Int) (by omega) (by omega)
  have hr := h.range (i : Int) (by omega) (by omega)
  rw [rd43_get hl, rd43_get hi] at hh
  rw [rd43_get hl, rd43_get hi] at hr
  have hlen := heads_len hh
  have hw := List.all_eq_true.1 hv l[i] (List.getElem_mem hl)
  unfold headsB at hh
  simp only [Bool.and_eq_true, beq_iff_eq] at hh
  simp only [rightB, Bool.and_eq_true] at hw ⊢
  rw [← hh.1, ← hh.2.2, ← hlen]
  refine ⟨⟨hw.1.1, ?_⟩, hw.2⟩
  refine List.all_eq_true.2 fun y hy => ?_
  obtain ⟨j, hj, rfl⟩ := List.mem_iff_getElem.1 hy
  have := hr j (by omega)
  rw [rd_get hj] at this
  rw [h.len]
  simpa using this
theorem rd43_set {t : List S43} {i : Nat} (hi : i < t.length) (v : S43) (x : Int) (hx : 0 ≤ x) : rd_T43 (t.set i v) x = if x = (i : Int) then v else rd_T43 t x := by
  obtain ⟨n, rfl⟩ := Int.eq_ofNat_of_zero_le hx
  unfold rd_T43
  simp only [Int.toNat_natCast, List.getD_eq_getElem?_getD, List.getElem?_set]
  by_cases e : (n : Int) = (i : Int)
  · have : i = n := by omega
    subst this
    rw [if_pos rfl, if_pos rfl, if_pos hi]
    rfl
  · rw [if_neg e, if_neg (by omega)]
theorem rd_set {t : List Int} {i : Nat} (hi : i < t.length) (v : Int) (n : Nat) : rd (t.set i v) (n : Int) = if n = i then v else rd t (n : Int) := by
  unfold rd
  simp only [Int.toNat_natCast, List.getD_eq_getElem?_getD, List.getElem?_set]
  by_cases e : n = i
  · subst e
    rw [if_pos rfl, if_pos rfl, if_pos hi]
    rfl
  · rw [if_neg e, if_neg (by omega)]
theorem Alike.put {l t : List S43} (h : Alike l t) {a b : Int} (hs : SameP l ⟨a, b⟩) (hb : 0 ≤ b ∧ b < (l.length : Int)) {i j : Nat} (hi : i < l.length) (hj : j < (rd_T43 t (i : Int)).f1.length) (ha : rd (rd_T43 t (i : Int)).f1 (j : Int) = a) :
    Alike l (t.set i ⟨(rd_T43 t (i : Int)).f0, (rd_T43 t (i : Int)).f1.set j b, (rd_T43 t (i : Int)).f2⟩) := by
  have hit : i < t.length := by rw [h.len]; exact hi
  have hh := h.head (i : Int) (by omega) (by omega)
  have hlen := heads_len hh
  refine ⟨by simp [h.len], fun x h0 h1 => ?_, fun x h0 h1 n hn => ?_, fun x h0 h1 n hn => ?_⟩
  · rw [rd43_set hit _ x h0]
    by_cases e : x = (i : Int)
    · subst e
      rw [if_pos rfl]
      unfold headsB at hh ⊢
      simpa using hh
    · rw [if_neg e]; exact h.head x h0 h1
  · rw [rd43_set hit _ x h0]
    by_cases e : x = (i : Int)
    · subst e
      rw [if_pos rfl]
      simp only
      rw [rd_set hj]
      have hk := h.kid (i : Int) h0 h1 n hn
      by_cases en : n = j
      · subst en
        rw [if_pos rfl]
        rw [ha] at hk
        exact hk.thru hs
      · rw [if_neg en]; exact hk
    · rw [if_neg e]; exact h.kid x h0 h1 n hn
  · rw [rd43_set hit _ x h0]
    by_cases e : x = (i : Int)
    · subst e
      rw [if_pos rfl]
      simp only
      rw [rd_set hj]
      by_cases en : n = j
      · rw [if_pos en]; exact hb
      · rw [if_neg en]; exact h.range _ h0 h1 n hn
    · rw [if_neg e]; exact h.range x h0 h1 n hn
end Go.Proofs.Ytapagakfckjhdaa.PKindsSame
