/-
  What is put in is there, and nothing else is another one: in plain words.
-/
import Derived.Test.YtenfjdkeikjhlaaWth
import Derived.Test.YtenfjdkeikjhlaaSize
import Derived.Test.YtenfjdkeikjhlaaGreat
import Derived.Test.YtenfjdkeikjhlaaSame
set_option autoImplicit false
set_option linter.unusedVariables false
set_option linter.unusedSimpArgs false
namespace Go.Proofs.Ytenfjdkeikjhlaa.Vs
open Go.VI Go.Proofs
variable {orc : CallF}
def sumc : List (V × Nat) → Nat
  | [] => 0
  | p :: r => p.1.cnt + sumc r
theorem sumc_append : ∀ a b : List (V × Nat), sumc (a ++ b) = sumc a + sumc b
  | [], b => by simp [sumc]
  | x :: a, b => by simp only [List.cons_append, sumc, sumc_append a b]; omega
theorem sumc_rev (d : Nat) : ∀ l : List V, sumc (l.map fun y => (y, d)).reverse = V.cnts l
  | [] => rfl
  | x :: l => by simp only [List.map_cons, List.reverse_cons, sumc_append, sumc_rev d l, sumc, V.cnts]; omega
theorem gr_cnt : ∀ (f n : Nat) (st : List (V × Nat)), gr f n st = false → n + f = 65537 → n + sumc st ≤ 65536
  | 0, n, st, h, _ => by simp [gr] at h
  | f + 1, n, [], _, hn => by simp only [sumc]; omega
  | f + 1, n, (x, d) :: r, h, hn => by
    simp only [gr] at h
    split at h
    · cases h
    · split at h
      · cases h
      · have := gr_cnt f (n + 1) _ h (by omega)
        rw [sumc_append, sumc_rev] at this
        cases x with | mk k m l => simp only [sumc, V.cnt, V.l] at this ⊢; omega
theorem great_cnt {v : V} (h : gr 65537 0 [(v, 1)] = false) : v.cnt ≤ 65536 := by
  have := gr_cnt _ _ _ h rfl
  simp only [sumc] at this; omega
def apart : List Int → List Int → Bool
  | p :: ps, q :: qs => decide (p ≠ q) || apart ps qs
  | _, _ => false
theorem apart_nil (qs : List Int) : apart [] qs = false := by cases qs <;> rfl
theorem apart_nil' (qs : List Int) : apart qs [] = false := by cases qs <;> rfl
theorem apart_take : ∀ {ps qs : List Int} {i : Nat} (h1 : i < ps.length) (h2 : i < qs.length), apart (ps.take (i + 1)) (qs.take (i + 1)) = (apart (ps.take i) (qs.take i) || decide (ps[i] ≠ qs[i]))
  | p :: ps, q :: qs, 0, _, _ => by simp [apart, apart_nil]
  | p :: ps, q :: qs, i + 1, h1, h2 => by
    simp only [List.take_succ_cons, apart, List.getElem_cons_succ]
    rw [apart_take (by simpa using h1) (by simpa using h2), Bool.or_assoc]
theorem apart_all : ∀ {ps qs : List Int} {i : Nat}, (ps.length ≤ i ∨ qs.length ≤ i) → apart (ps.take i) (qs.take i) = apart ps qs
  | [], qs, i, _ => by simp [apart_nil]
  | p :: ps, [], i, _ => by simp [apart_nil']
  | p :: ps, q :: qs, 0, h => by simp at h
  | p :: ps, q :: qs, i + 1, h => by
    simp only [List.take_succ_cons, apart]
    rw [apart_all (by simpa using h)]
theorem cnts_set : ∀ {l : List V} {j : Nat} (hj : j < l.length) (x : V), V.cnts (l.set j x) + l[j].cnt = V.cnts l + x.cnt
  | y :: l, 0, _, x => by simp only [List.set_cons_zero, V.cnts, List.getElem_cons_zero]; omega
  | y :: l, j + 1, h, x => by
    have := cnts_set (l := l) (j := j) (by simpa using h) x
    simp only [List.set_cons_succ, V.cnts, List.getElem_cons_succ]; omega
theorem step_inv {k n i : Int} {l : List V} {x : V} (h : stepV (.mk k n l) i = some x) : ∃ j : Nat, i = j ∧ (k = 3 ∨ k = 4) ∧ ∃ hj : j < l.length, l[j] = x := by
  simp only [stepV] at h
  by_cases hc : (k = 3 ∨ k = 4) ∧ 0 ≤ i ∧ i < (l.length : Int)
  · rw [if_pos hc] at h
    obtain ⟨j, rfl⟩ := Int.eq_ofNat_of_zero_le hc.2.1
    have hj : j < l.length := by omega
    rw [Int.toNat_natCast, List.getElem?_eq_getElem hj] at h
    injection h with h
    exact ⟨j, rfl, hc.1, hj, h⟩
  · rw [if_neg hc] at h; cases h
theorem step_mk {k n : Int} {l : List V} {j : Nat} (hk : k = 3 ∨ k = 4) (hj : j < l.length) : stepV (.mk k n l) (j : Int) = some l[j] := by
  simp only [stepV]
  rw [if_pos ⟨hk, by omega, by omega⟩, Int.toNat_natCast, List.getElem?_eq_getElem hj]
theorem put_of_part : ∀ {p : List Int} {v y : V} (x : V), partV v p = some y → ∃ w, putV v p x = some w
  | [], v, y, x, _ => ⟨x, by cases v; rfl⟩
  | i :: p, .mk k n l, y, x, h => by
    simp only [partV] at h
    cases hs : stepV (.mk k n l) i with
    | none => rw [hs] at h; cases h
    | some c =>
      rw [hs] at h
      obtain ⟨w, hw⟩ := put_of_part (p := p) (v := c) x h
      exact ⟨_, by simp only [putV, hs, hw, Option.map_some]; rfl⟩
theorem put_props : ∀ {p : List Int} {v y x w : V}, partV v p = some y → putV v p x = some w →
    partV w p = some x ∧ putV w p y = some v ∧ w.cnt + y.cnt = v.cnt + x.cnt ∧ ∀ q, apart p q = true → partV w q = partV v q
  | [], v, y, x, w, h1, h2 => by
    have e1 : v = y := by injection h1
    have e2 : x = w := by cases v; injection h2
    subst e1; subst e2
    exact ⟨rfl, by cases x; rfl, by omega, fun q hq => by rw [apart_nil] at hq; cases hq⟩
  | i :: p, .mk k n l, y, x, w, h1, h2 => by
    simp only [partV] at h1
    simp only [putV] at h2
    cases hs : stepV (.mk k n l) i with
    | none => rw [hs] at h1; cases h1
    | some c =>
      rw [hs] at h1 h2
      obtain ⟨j, rfl, hk, hj, rfl⟩ := step_inv hs
      obtain ⟨c', hc', rfl⟩ := Option.map_eq_some_iff.1 h2
      obtain ⟨i1, i2, i3, i4⟩ := put_props h1 hc'
      simp only [Int.toNat_natCast]
      have hj' : j < (l.set j c').length := by simpa using hj
      have hst : stepV (.mk k n (l.set j c')) (j : Int) = some c' := by rw [step_mk hk hj']; simp
      refine ⟨by simp only [partV, hst]; exact i1, by simp only [putV, hst, i2, Option.map_some, Int.toNat_natCast]; simp, ?_, fun q hq => ?_⟩
      · have := cnts_set hj c'; simp only [V.cnt]; omega
      · cases q with
        | nil => rw [apart_nil'] at hq; cases hq
        | cons i' q =>
          by_cases hi : (j : Int) = i'
          · subst hi
            simp only [apart, ne_eq, not_true_eq_false, decide_false, Bool.false_or] at hq
            simp only [partV, hst, hs]; exact i4 q hq
          · have : stepV (.mk k n (l.set j c')) i' = stepV (.mk k n l) i' := by
              simp only [stepV, List.length_set]
              by_cases hc : (k = 3 ∨ k = 4) ∧ 0 ≤ i' ∧ i' < (l.length : Int)
              · rw [if_pos hc, if_pos hc]
                rw [List.getElem?_set_ne (by omega)]
              · rw [if_neg hc, if_neg hc]
            simp only [partV, this]

/-! the contracts, at what is known -/
theorem part_at (ho : NoOrcBut [9] orc) {H0 : AH} (W0 : Wf H0) {ka na : Int} {la : List V} {sa sp : AV} {ps : List Int} (hS : SA H0 la sa) (hP : SI H0 ps sp) (hN : (V.mk ka na la).cnt ≤ 1000000) {kx nx : Int} {lx : List V} (h : partV (.mk ka na la) ps = some (.mk kx nx lx)) :
    VI.Fin Try.prog orc 27 [.agg [.int .i64 ka, .int .i64 na, sa], sp] H0 (fun r H' => ∃ sx, r = .tup [.agg [.int .i64 kx, .int .i64 nx, sx], .bool true] ∧ SA H' lx sx ∧ Ext H0 H') :=
  (part_yes ho W0 ka na la sa sp ps hS hP hN h).mono fun r H' ⟨ck, cn, cl, cs, h1, h2, h3, h4⟩ => by
    injection h1 with q1 q2 q3; subst q1; subst q2; subst q3; exact ⟨cs, h3, h2, h4⟩
theorem part_not (ho : NoOrcBut [9] orc) {H0 : AH} (W0 : Wf H0) {ka na : Int} {la : List V} {sa sp : AV} {ps : List Int} (hS : SA H0 la sa) (hP : SI H0 ps sp) (hN : (V.mk ka na la).cnt ≤ 1000000) (h : partV (.mk ka na la) ps = none) :
    VI.Fin Try.prog orc 27 [.agg [.int .i64 ka, .int .i64 na, sa], sp] H0 (fun r H' => r = .tup [.agg [.int .i64 0, .int .i64 0, .nils], .bool false] ∧ Ext H0 H') := part_no ho W0 ka na la sa sp ps hS hP hN h
theorem with_at (ho : NoOrcBut [9] orc) {H0 : AH} (W0 : Wf H0) {ka na kb nb : Int} {la lb : List V} {sa sb sp : AV} {ps : List Int} (hS : SA H0 la sa) (hB : SA H0 lb sb) (hP : SI H0 ps sp) (hN : (V.mk ka na la).cnt ≤ 1000000) (hM : (V.mk kb nb lb).cnt ≤ 1000000) {y : V} (hy : partV (.mk ka na la) ps = some y) {kw nw : Int} {lw : List V} (h : putV (.mk ka na la) ps (.mk kb nb lb) = some (.mk kw nw lw)) :
    VI.Fin Try.prog orc 28 [.agg [.int .i64 ka, .int .i64 na, sa], sp, .agg [.int .i64 kb, .int .i64 nb, sb]] H0 (fun r H' => ∃ sw, r = .tup [.agg [.int .i64 kw, .int .i64 nw, sw], .bool true] ∧ SA H' lw sw ∧ Ext H0 H') :=
  (with_fin ho W0 ka na kb nb la lb sa sb sp ps hS hB hP hN hM).mono fun r H' hh => by
    rcases hh with ⟨h1, _⟩ | ⟨w, a', h1, h2, h3, h4⟩
    · rw [hy] at h1; cases h1
    · rw [h] at h1; injection h1 with h1; subst h1
      cases h3 with | mk _ _ _ s hs => exact ⟨s, h2, hs, h4⟩
theorem with_not (ho : NoOrcBut [9] orc) {H0 : AH} (W0 : Wf H0) {ka na kb nb : Int} {la lb : List V} {sa sb sp : AV} {ps : List Int} (hS : SA H0 la sa) (hB : SA H0 lb sb) (hP : SI H0 ps sp) (hN : (V.mk ka na la).cnt ≤ 1000000) (hM : (V.mk kb nb lb).cnt ≤ 1000000) (hy : partV (.mk ka na la) ps = none) :
    VI.Fin Try.prog orc 28 [.agg [.int .i64 ka, .int .i64 na, sa], sp, .agg [.int .i64 kb, .int .i64 nb, sb]] H0 (fun r H' => r = .tup [.agg [.int .i64 0, .int .i64 0, .nils], .bool false] ∧ Ext H0 H') :=
  (with_fin ho W0 ka na kb nb la lb sa sb sp ps hS hB hP hN hM).mono fun r H' hh => by
    rcases hh with ⟨_, h2, h3⟩ | ⟨w, a', h1, _⟩
    · exact ⟨h2, h3⟩
    · exfalso
      have hn : ∀ (p : List Int) (v x : V), partV v p = none → putV v p x = none := by
        intro p
        induction p with
        | nil => intro v x h; cases h
        | cons i p ih =>
          intro v x h
          cases v with | mk k n l =>
          simp only [partV] at h
          simp only [putV]
          cases hs : stepV (.mk k n l) i with
          | none => rfl
          | some c => rw [hs] at h; simp only [ih c x h, Option.map_none]
      rw [hn _ _ _ hy] at h1; cases h1
theorem size_at (ho : NoOrcBut [9] orc) {H0 : AH} (W0 : Wf H0) {ka na : Int} {la : List V} {sa : AV} (hS : SA H0 la sa) (hN : (V.mk ka na la).cnt ≤ 1000000) :
    VI.Fin Try.prog orc 15 [.agg [.int .i64 ka, .int .i64 na, sa], .int .i64 1099511627776] H0 (fun r H' => r = .int .i64 ((V.mk ka na la).cnt : Int) ∧ Ext H0 H') :=
  (size_fin ho W0 ka na 1099511627776 la sa hS (by omega) hN).mono fun r H' ⟨h1, h2⟩ => ⟨h1.trans (by unfold sizeS; rw [if_neg (by omega), if_pos (by omega)]), h2⟩
theorem same_selfP (ho : NoOrcBut [9] orc) {H : AH} (W : Wf H) {x : V} {a b : List AV} (ha : VA H x a) (hb : VA H x b) : VI.Fin Try.prog orc 21 [.agg a, .agg b] H (fun r H' => r = .bool true ∧ Ext H H') :=
  (same_fin ho x H W x a b ha hb).mono fun r H' h => ⟨h.1.trans (congrArg AV.bool (eqV_t.2 rfl)), h.2⟩
end Go.Proofs.Ytenfjdkeikjhlaa.Vs
