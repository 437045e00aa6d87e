/-
  What the document's Same comes to: the same as the program's.
-/
import Derived.Test.YtapagakfckjhdaaRvKindsSame
import Derived.Test.YtapagakfckjhdaaSmqKindsSame
set_option autoImplicit false
set_option linter.unusedVariables false
set_option linter.unusedSimpArgs false
namespace Go.Proofs.Ytapagakfckjhdaa.PKindsSame
open Go.RowKit Go.Proofs.YtapagakfckjhdaaW.PrintWords

def visB (s : List (List Bool)) (q : S59) : Bool := rdOf false (rd_L4 s q.f0) q.f1
def cntT (s : List (List Bool)) : Nat := (s.map fun r => r.count true).sum
structure Tab (n : Nat) (s : List (List Bool)) : Prop where
  len : s.length = n
  rows : ∀ r ∈ s, r.length = 0 ∨ r.length = n
theorem L4_set {s : List (List Bool)} {i : Nat} (hi : i < s.length) (v : List Bool) (x : Int) (hx : 0 ≤ x) : rd_L4 (s.set i v) x = if x = (i : Int) then v else rd_L4 s x := by
  obtain ⟨n, rfl⟩ := Int.eq_ofNat_of_zero_le hx
  unfold rd_L4
  simp only [Int.toNat_natCast, List.getD_eq_getElem?_getD, List.getElem?_set]
  by_cases e : (n : Int) = (i : Int)
  · have : i = n := by omega
    subst this
    rw [if_pos rfl, if_pos rfl, if_pos hi]
    rfl
  · rw [if_neg e, if_neg (by omega)]
theorem rdOf_set {t : List Bool} {i : Nat} (hi : i < t.length) (v : Bool) (x : Int) (hx : 0 ≤ x) : rdOf false (t.set i v) x = if x = (i : Int) then v else rdOf false t x := by
  obtain ⟨n, rfl⟩ := Int.eq_ofNat_of_zero_le hx
  unfold rdOf
  simp only [Int.toNat_natCast, List.getD_eq_getElem?_getD, List.getElem?_set]
  by_cases e : (n : Int) = (i : Int)
  · have : i = n := by omega
    subst this
    rw [if_pos rfl, if_pos rfl, if_pos hi]
    rfl
  · rw [if_neg e, if_neg (by omega)]
theorem L4_get {s : List (List Bool)} {i : Nat} (h : i < s.length) : rd_L4 s (i : Int) = s[i] := by simp [rd_L4, h]
theorem sum_set : ∀ (s : List Nat) (i : Nat) (h : i < s.length) (v : Nat), (s.set i v).sum + s[i] = s.sum + v
  | x :: s, 0, h, v => by simp; omega
  | x :: s, i + 1, h, v => by
    have := sum_set s i (by simpa using h) v
    simp only [List.set_cons_succ, List.sum_cons, List.getElem_cons_succ]
    omega
theorem cnt_set {s : List (List Bool)} {i : Nat} (h : i < s.length) (v : List Bool) : cntT (s.set i v) + s[i].count true = cntT s + v.count true := by
  unfold cntT
  rw [List.map_set]
  have := sum_set (s.map fun r => r.count true) i (by simpa using h) (v.count true)
  simpa using this
theorem count_set : ∀ (r : List Bool) (j : Nat) (h : j < r.length), r[j] = false → (r.set j true).count true = r.count true + 1
  | x :: r, 0, h, hx => by
    simp only [List.getElem_cons_zero] at hx
    subst hx
    simp
  | x :: r, j + 1, h, hx => by
    have := count_set r j (by simpa using h) (by simpa using hx)
    simp only [List.set_cons_succ, List.count_cons, this]
    omega
theorem sum_le_mul (b : Nat) : ∀ (s : List Nat), (∀ x ∈ s, x ≤ b) → s.sum ≤ s.length * b
  | [], _ => by simp
  | x :: s, h => by
    have h1 := sum_le_mul b s (fun y hy => h y (List.mem_cons_of_mem _ hy))
    have h2 := h x List.mem_cons_self
    simp only [List.sum_cons, List.length_cons, Nat.succ_mul]
    omega
theorem Tab.cnt_le {n : Nat} {s : List (List Bool)} (h : Tab n s) : cntT s ≤ n * n := by
  unfold cntT
  have := sum_le_mul n (s.map fun r => r.count true) (fun x hx => by
    obtain ⟨r, hr, rfl⟩ := List.mem_map.1 hx
    have h1 := h.rows r hr
    have h2 := List.count_le_length (a := true) (l := r)
    omega)
  rw [List.length_map, h.len] at this
  exact this
theorem Tab.set {n : Nat} {s : List (List Bool)} (h : Tab n s) (i : Nat) {v : List Bool} (hv : v.length = n) : Tab n (s.set i v) :=
  ⟨by rw [List.length_set]; exact h.len, fun r hr => by
    rcases List.mem_or_eq_of_mem_set hr with hr | rfl
    · exact h.rows r hr
    · exact .inr hv⟩
theorem Tab.row {n : Nat} {s : List (List Bool)} (h : Tab n s) {x : Int} (h0 : 0 ≤ x) (h1 : x < n) : (rd_L4 s x).length = 0 ∨ (rd_L4 s x).length = n := by
  obtain ⟨i, rfl⟩ := Int.eq_ofNat_of_zero_le h0
  have hi : i < s.length := by have := h.len; omega
  rw [L4_get hi]
  exact h.rows _ (List.getElem_mem hi)
theorem Tab.fill {n : Nat} {s : List (List Bool)} (h : Tab n s) {x : Int} (h0 : 0 ≤ x) (h1 : x < n) (he : (rd_L4 s x).length = 0) :
    Tab n (s.set x.toNat (List.replicate n false)) ∧ cntT (s.set x.toNat (List.replicate n false)) = cntT s ∧ ∀ q : S59, inRange n q → visB (s.set x.toNat (List.replicate n false)) q = visB s q := by
  obtain ⟨i, rfl⟩ := Int.eq_ofNat_of_zero_le h0
  have hi : i < s.length := by have := h.len; omega
  rw [L4_get hi] at he
  have he' : s[i] = [] := List.eq_nil_of_length_eq_zero he
  refine ⟨h.set _ (by simp), ?_, fun q hq => ?_⟩
  · have := cnt_set hi (List.replicate n false)
    rw [he'] at this
    simpa [List.count_replicate] using this
  · unfold visB
    rw [Int.toNat_natCast, L4_set hi _ _ hq.1]
    by_cases e : q.f0 = (i : Int)
    · rw [if_pos e, e, L4_get hi, he']
      unfold rdOf
      simp only [List.getD_eq_getElem?_getD, List.getElem?_replicate]
      split <;> rfl
    · rw [if_neg e]
theorem Tab.mark {n : Nat} {s : List (List Bool)} (h : Tab n s) {q : S59} (hq : inRange n q) (hl : (rd_L4 s q.f0).length = n) (hv : visB s q = false) :
    Tab n (s.set q.f0.toNat ((rd_L4 s q.f0).set q.f1.toNat true)) ∧ cntT (s.set q.f0.toNat ((rd_L4 s q.f0).set q.f1.toNat true)) = cntT s + 1 ∧
      ∀ p : S59, inRange n p → (visB (s.set q.f0.toNat ((rd_L4 s q.f0).set q.f1.toNat true)) p = true ↔ visB s p = true ∨ p = q) := by
  obtain ⟨x, y⟩ := q
  obtain ⟨h0, h1, h2, h3⟩ := hq
  simp only at h0 h1 h2 h3 hl
  obtain ⟨i, rfl⟩ := Int.eq_ofNat_of_zero_le h0
  obtain ⟨j, rfl⟩ := Int.eq_ofNat_of_zero_le h2
  have hi : i < s.length := by have := h.len; omega
  have hj : j < (rd_L4 s (i : Int)).length := by omega
  simp only [Int.toNat_natCast]
  refine ⟨h.set _ (by simpa using hl), ?_, fun p hp => ?_⟩
  · have := cnt_set hi ((rd_L4 s (i : Int)).set j true)
    rw [count_set _ j hj (by simpa [visB, rdOf, hj] using hv)] at this
    rw [L4_get hi] at this ⊢
    omega
  · obtain ⟨p0, p1⟩ := p
    obtain ⟨g0, g1, g2, g3⟩ := hp
    simp only at g0 g1 g2 g3
    unfold visB
    simp only
    rw [L4_set hi _ _ g0]
    by_cases e : p0 = (i : Int)
    · subst e
      rw [if_pos rfl, rdOf_set hj _ _ g2]
      by_cases e2 : p1 = (j : Int)
      · subst e2
        simp
      · rw [if_neg e2]
        simp [e2]
    · rw [if_neg e]
      simp [e]
def pr (q : S59) : List Int := [q.f0, q.f1]
/-- All pairs behind a pair, from the i-th on. -/
def psh (x y : S43) (i d : Nat) (L : List S59) : List S59 :=
  match d with
  | 0 => L
  | d + 1 => psh x y (i + 1) d (L ++ [succOf x y i])
theorem psh_len (x y : S43) : ∀ (d i : Nat) (L : List S59), (psh x y i d L).length = L.length + d
  | 0, _, _ => rfl
  | d + 1, i, L => by rw [psh, psh_len x y d]; simp; omega
theorem psh_mem (x y : S43) (q : S59) : ∀ (d i : Nat) (L : List S59), q ∈ psh x y i d L ↔ q ∈ L ∨ ∃ j, i ≤ j ∧ j < i + d ∧ q = succOf x y j
  | 0, i, L => ⟨fun h => .inl h, fun h => by
    rcases h with h | ⟨j, h1, h2, _⟩
    · exact h
    · omega⟩
  | d + 1, i, L => by
    rw [psh, psh_mem x y q d]
    constructor
    · rintro (h | ⟨j, h1, h2, h3⟩)
      · rcases List.mem_append.1 h with h | h
        · exact .inl h
        · exact .inr ⟨i, Nat.le_refl _, by omega, List.mem_singleton.1 h⟩
      · exact .inr ⟨j, by omega, by omega, h3⟩
    · rintro (h | ⟨j, h1, h2, h3⟩)
      · exact .inl (List.mem_append_left _ h)
      · by_cases e : j = i
        · subst e; exact .inl (List.mem_append_right _ (List.mem_singleton.2 h3))
        · exact .inr ⟨j, by omega, by omega, h3⟩
theorem refs_l1 (l : List S43) (n : Int) (s : List (List Bool)) (u : S59) (hu : inRange l.length u) (hxy : (rd_T43 l u.f0).f1.length = (rd_T43 l u.f1).f1.length) (hk : (rd_T43 l u.f0).f1.length < 9223372036854775807) (r : Bool) : ∀ (d i : Nat) (L : List S59), i + d = (rd_T43 l u.f0).f1.length → L.length + d < 5864062014805 →
    Ev (fun k => squintref04_Same.l0 k l n s ((psh (rd_T43 l u.f0) (rd_T43 l u.f1) i d L).map pr)) r → Ev (fun k => squintref04_Same.l1 k l n s (L.map pr) u.f0 u.f1 (i : Int)) r
  | 0, i, L, h, hl, he => by
    refine Ev.step (fun k => ?_) he
    simp only [squintref04_Same.l1]
    rw [if_pos hu.1, if_pos hu.2.1, if_neg (by omega)]
    rfl
  | d + 1, i, L, h, hl, he => by
    refine Ev.step (fun k => ?_) (refs_l1 l n s u hu hxy hk r d (i + 1) (L ++ [succOf (rd_T43 l u.f0) (rd_T43 l u.f1) i]) (by omega) (by simp; omega) he)
    simp only [squintref04_Same.l1]
    rw [if_pos hu.1, if_pos hu.2.1, if_pos (by omega), if_pos (by omega), if_pos hu.2.2.1, if_pos hu.2.2.2, if_pos (by omega), if_pos (by simp; omega), wrap_succ (by omega), List.map_append]
    rfl
theorem lastL {L : List S59} (h : L.length ≠ 0) : ∃ u, u ∈ L ∧ rd_L1 (L.map pr) (((L.length : Nat) : Int) - 1) = pr u ∧ ∀ q ∈ L, q = u ∨ q ∈ L.take (L.length - 1) := by
  refine ⟨L[L.length - 1], List.getElem_mem _, ?_, fun q hq => ?_⟩
  · unfold rd_L1
    rw [show ((L.length : Int) - 1).toNat = L.length - 1 by omega]
    simp [show L.length - 1 < L.length by omega]
  · obtain ⟨j, hj, rfl⟩ := List.mem_iff_getElem.1 hq
    by_cases hl : j = L.length - 1
    · subst hl; exact .inl rfl
    · exact .inr (List.mem_iff_getElem.2 ⟨j, by rw [List.length_take]; omega, by rw [List.getElem_take]⟩)
theorem refs_l0 (l : List S43) (hv : validB l = true) (hn : l.length ≤ 2000) (hk : ∀ x ∈ l, x.f1.length ≤ 1048576) (p : S59) : ∀ (m : Nat) (s : List (List Bool)) (L : List S59), (l.length * l.length - cntT s) * 1048578 + L.length = m →
    Tab l.length s → L.length ≤ 1 + cntT s * 1048576 → (∀ q ∈ L, inRange l.length q ∧ Reach l p q) → (∀ q, inRange l.length q → visB s q = true → Reach l p q ∧ headsB (rd_T43 l q.f0) (rd_T43 l q.f1) = true ∧ ∀ i, i < (rd_T43 l q.f0).f1.length → visB s (succOf (rd_T43 l q.f0) (rd_T43 l q.f1) i) = true ∨ succOf (rd_T43 l q.f0) (rd_T43 l q.f1) i ∈ L) →
    inRange l.length p → (visB s p = true ∨ p ∈ L) → ∃ r, Ev (fun k => squintref04_Same.l0 k l (l.length : Int) s (L.map pr)) r ∧ (r = true ↔ SameP l p) := by
  intro m
  induction m using Nat.strongRecOn with
  | ind m ih =>
    intro s L hm ht hlb hL hV hpr hp
    have hnn : l.length * l.length ≤ 2000 * 2000 := Nat.mul_le_mul hn hn
    have hcnt := ht.cnt_le
    by_cases h0 : L.length = 0
    · obtain rfl : L = [] := List.eq_nil_of_length_eq_zero h0
      refine ⟨true, Ev.step (f := fun _ => some true) (fun k => by simp only [squintref04_Same.l0]; rw [if_neg (by simp)]) (Ev.now _), iff_of_true rfl ?_⟩
      refine SameP.of_closed (fun q => inRange l.length q ∧ visB s q = true) (fun q hq => (hV q hq.1 hq.2).2.1) (fun q hq i hx hy => ⟨succ_range hv hq.1 hx hy, ?_⟩) ⟨hpr, ?_⟩
      · rcases (hV q hq.1 hq.2).2.2 i hx with h | h
        · exact h
        · cases h
      · rcases hp with h | h
        · exact h
        · cases h
    · obtain ⟨u, huL, hu, hsplit⟩ := lastL h0
      obtain ⟨hur, hreach⟩ := hL u huL
      obtain ⟨d0, d1, d2, d3⟩ := hur
      have hw : wrap64 (((L.map pr).length : Int) - 1) = (L.length : Int) - 1 := by rw [List.length_map]; unfold wrap64; omega
      have htake : (L.map pr).take (((L.length : Int) - 1).toNat) = (L.take (L.length - 1)).map pr := by rw [List.map_take, show ((L.length : Int) - 1).toNat = L.length - 1 by omega]
      have hsl := ht.len
      -- the row is made, if there is none
      have key : ∃ s', Tab l.length s' ∧ cntT s' = cntT s ∧ (∀ q : S59, inRange l.length q → visB s' q = visB s q) ∧ (rd_L4 s' u.f0).length = l.length ∧
          ∀ r, Ev (fun k => squintref04_Same.j2 k l (l.length : Int) s' ((L.take (L.length - 1)).map pr) u.f0 u.f1) r → Ev (fun k => squintref04_Same.l0 k l (l.length : Int) s (L.map pr)) r := by
        by_cases he : ((rd_L4 s u.f0).length : Int) = 0
        · obtain ⟨f1, f2, f3⟩ := ht.fill d0 d1 (by omega)
          refine ⟨_, f1, f2, f3, ?_, fun r hr => Ev.step (fun k => ?_) hr⟩
          · rw [L4_set (by omega) _ _ d0, if_pos (by omega)]
            simp
          · simp only [squintref04_Same.l0]
            rw [if_pos (by simp; omega), hw, hu, if_pos (by omega), if_pos (by rw [List.length_map]; omega), if_pos (by simp [pr]), if_pos (by simp [pr]), if_pos (by rw [List.length_map]; omega), htake]
            simp only [Option.bind_some]
            rw [show rd (pr u) 0 = u.f0 from rfl, show rd (pr u) 1 = u.f1 from rfl, if_pos d0, if_pos (by omega), if_pos he, if_pos (by omega), if_pos (by omega)]
            rfl
        · refine ⟨s, ht, rfl, fun _ _ => rfl, ?_, fun r hr => Ev.step (fun k => ?_) hr⟩
          · rcases ht.row d0 d1 with h | h
            · omega
            · exact h
          · simp only [squintref04_Same.l0]
            rw [if_pos (by simp; omega), hw, hu, if_pos (by omega), if_pos (by rw [List.length_map]; omega), if_pos (by simp [pr]), if_pos (by simp [pr]), if_pos (by rw [List.length_map]; omega), htake]
            simp only [Option.bind_some]
            rw [show rd (pr u) 0 = u.f0 from rfl, show rd (pr u) 1 = u.f1 from rfl, if_pos d0, if_pos (by omega), if_neg he]
      obtain ⟨s', ht', hc', hvis', hrow, hstep⟩ := key
      have hsl' := ht'.len
      have hT : ∀ q ∈ L.take (L.length - 1), inRange l.length q ∧ Reach l p q := fun q hq => hL q (List.mem_of_mem_take hq)
      have hTl : (L.take (L.length - 1)).length = L.length - 1 := by simp
      cases hvu : visB s' u
      · obtain ⟨g1, g2, g3⟩ := ht'.mark ⟨d0, d1, d2, d3⟩ hrow hvu
        obtain ⟨s2, hs2⟩ : ∃ s2, s'.set u.f0.toNat ((rd_L4 s' u.f0).set u.f1.toNat true) = s2 := ⟨_, rfl⟩
        rw [hs2] at g1 g2 g3
        have hcnt2 := g1.cnt_le
        have hj2 : ∀ r, Ev (fun k => squintref04_Same.j3 k l (l.length : Int) s2 ((L.take (L.length - 1)).map pr) u.f0 u.f1 (!headsB (rd_T43 l u.f0) (rd_T43 l u.f1))) r → Ev (fun k => squintref04_Same.j2 k l (l.length : Int) s' ((L.take (L.length - 1)).map pr) u.f0 u.f1) r := fun r hr => by
          refine Ev.step (fun k => ?_) hr
          simp only [squintref04_Same.j2]
          rw [if_pos d0, if_pos (by omega), if_pos d2, if_pos (by omega), if_neg (by unfold visB at hvu; simp [hvu]), hs2]
          simp only [Option.bind_some]
          rw [if_pos d1, if_pos d3]
          unfold headsB
          by_cases e0 : (rd_T43 l u.f0).f0 = (rd_T43 l u.f1).f0
          · have q0 : ((rd_T43 l u.f0).f0 == (rd_T43 l u.f1).f0) = true := by simpa using e0
            rw [if_pos e0, q0]
            by_cases e2 : (rd_T43 l u.f0).f2 = (rd_T43 l u.f1).f2
            · have q2 : ((rd_T43 l u.f0).f2 == (rd_T43 l u.f1).f2) = true := by simpa using e2
              have q2' : ((rd_T43 l u.f0).f2 != (rd_T43 l u.f1).f2) = false := by simpa using e2
              rw [q2', if_neg (by simp), q2]
              by_cases e1 : (rd_T43 l u.f0).f1.length = (rd_T43 l u.f1).f1.length
              · have q1 : ((rd_T43 l u.f0).f1.length == (rd_T43 l u.f1).f1.length) = true := by simpa using e1
                have q1' : (((rd_T43 l u.f0).f1.length : Int) != ((rd_T43 l u.f1).f1.length : Int)) = false := by rw [e1]; simp
                rw [q1, q1']
                rfl
              · have q1 : ((rd_T43 l u.f0).f1.length == (rd_T43 l u.f1).f1.length) = false := beq_eq_false_iff_ne.mpr e1
                have q1' : (((rd_T43 l u.f0).f1.length : Int) != ((rd_T43 l u.f1).f1.length : Int)) = true := bne_iff_ne.mpr (by omega)
                rw [q1, q1']
                rfl
            · have q2 : ((rd_T43 l u.f0).f2 == (rd_T43 l u.f1).f2) = false := beq_eq_false_iff_ne.mpr e2
              have q2' : ((rd_T43 l u.f0).f2 != (rd_T43 l u.f1).f2) = true := bne_iff_ne.mpr e2
              rw [q2', if_pos rfl, q2]
              simp
          · have q0 : ((rd_T43 l u.f0).f0 == (rd_T43 l u.f1).f0) = false := beq_eq_false_iff_ne.mpr e0
            rw [if_neg e0, q0]
            rfl
        cases hh : headsB (rd_T43 l u.f0) (rd_T43 l u.f1)
        · refine ⟨false, hstep _ (hj2 _ ?_), iff_of_false (by simp) fun hsm => ?_⟩
          · refine Ev.step (f := fun _ => some false) (fun k => ?_) (Ev.now _)
            simp only [squintref04_Same.j3, hh]
            rfl
          · have := hsm u hreach
            rw [hh] at this
            cases this
        · have hlen := heads_len hh
          have hkb : (rd_T43 l u.f0).f1.length ≤ 1048576 := by
            obtain ⟨n, hn'⟩ := Int.eq_ofNat_of_zero_le d0
            rw [hn'] at d1 ⊢
            have hnl : n < l.length := by omega
            rw [rd43_get hnl]; exact hk _ (List.getElem_mem hnl)
          obtain ⟨L2, hL2⟩ : ∃ L2, psh (rd_T43 l u.f0) (rd_T43 l u.f1) 0 (rd_T43 l u.f0).f1.length (L.take (L.length - 1)) = L2 := ⟨_, rfl⟩
          have hL2l : L2.length = L.length - 1 + (rd_T43 l u.f0).f1.length := by rw [← hL2, psh_len, hTl]
          have hL2m : ∀ q, q ∈ L2 ↔ q ∈ L.take (L.length - 1) ∨ ∃ j, 0 ≤ j ∧ j < 0 + (rd_T43 l u.f0).f1.length ∧ q = succOf (rd_T43 l u.f0) (rd_T43 l u.f1) j := fun q => by rw [← hL2]; exact psh_mem _ _ q _ _ _
          obtain ⟨r, hr, hri⟩ := ih ((l.length * l.length - cntT s2) * 1048578 + L2.length) (by omega) s2 L2 rfl g1 (by omega)
            (fun q hq => by
              rcases (hL2m q).1 hq with h | ⟨j, _, hj, rfl⟩
              · exact hT q h
              · exact ⟨succ_range hv ⟨d0, d1, d2, d3⟩ (by omega) (by omega), .step j hreach (by omega) (by omega)⟩)
            (fun q hq hvq => by
              rcases (g3 q hq).1 hvq with h | rfl
              · rw [hvis' q hq] at h
                obtain ⟨a1, a2, a3⟩ := hV q hq h
                refine ⟨a1, a2, fun i hi => ?_⟩
                have hsr := succ_range hv hq hi (by have := heads_len a2; omega)
                rcases a3 i hi with h | h
                · exact .inl ((g3 _ hsr).2 (.inl (by rw [hvis' _ hsr]; exact h)))
                · rcases hsplit _ h with h | h
                  · exact .inl ((g3 _ hsr).2 (.inr h))
                  · exact .inr ((hL2m _).2 (.inl h))
              · exact ⟨hreach, hh, fun i hi => .inr ((hL2m _).2 (.inr ⟨i, by omega, by omega, rfl⟩))⟩)
            hpr (by
              rcases hp with h | h
              · exact .inl ((g3 p hpr).2 (.inl (by rw [hvis' p hpr]; exact h)))
              · rcases hsplit p h with h | h
                · exact .inl ((g3 p hpr).2 (.inr h))
                · exact .inr ((hL2m _).2 (.inl h)))
          refine ⟨r, hstep _ (hj2 _ ?_), hri⟩
          rw [hh]
          refine Ev.step (fun k => ?_) (refs_l1 l (l.length : Int) s2 u ⟨d0, d1, d2, d3⟩ hlen (by omega) r (rd_T43 l u.f0).f1.length 0 (L.take (L.length - 1)) (by omega) (by omega) (by rw [hL2]; exact hr))
          simp only [squintref04_Same.j3]
          rfl
      · -- it has been seen
        obtain ⟨r, hr, hri⟩ := ih ((l.length * l.length - cntT s') * 1048578 + (L.take (L.length - 1)).length) (by rw [hTl, hc']; omega) s' (L.take (L.length - 1)) rfl ht' (by omega) hT
          (fun q hq hvq => by
            rw [hvis' q hq] at hvq
            obtain ⟨a1, a2, a3⟩ := hV q hq hvq
            refine ⟨a1, a2, fun i hi => ?_⟩
            have hsr := succ_range hv hq hi (by have := heads_len a2; omega)
            rcases a3 i hi with h | h
            · exact .inl (by rw [hvis' _ hsr]; exact h)
            · rcases hsplit _ h with h | h
              · rw [h]; exact .inl hvu
              · exact .inr h)
          hpr (by
            rcases hp with h | h
            · exact .inl (by rw [hvis' p hpr]; exact h)
            · rcases hsplit p h with h | h
              · rw [h]; exact .inl hvu
              · exact .inr h)
        refine ⟨r, hstep _ (Ev.step (fun k => ?_) hr), hri⟩
        simp only [squintref04_Same.j2]
        rw [if_pos d0, if_pos (by omega), if_pos d2, if_pos (by omega), if_pos (show rdOf false (rd_L4 s' u.f0) u.f1 = true from hvu)]
theorem ref_same_ev (l : List S43) (hv : validB l = true) (hn : l.length ≤ 2000) (hk : ∀ x ∈ l, x.f1.length ≤ 1048576) {a b : Int} (h : inRange l.length ⟨a, b⟩) : ∃ r, Ev (fun k => squintref04_Same.f k l a b) r ∧ (r = true ↔ SameP l ⟨a, b⟩) := by
  have hT : Tab l.length (List.replicate l.length ([] : List Bool)) := ⟨by simp, fun r hr => by rw [List.eq_of_mem_replicate hr]; exact .inl rfl⟩
  have hc : cntT (List.replicate l.length ([] : List Bool)) = 0 := by unfold cntT; simp
  have hvis : ∀ q, visB (List.replicate l.length ([] : List Bool)) q = false := fun q => by
    unfold visB rd_L4 rdOf
    simp only [List.getD_eq_getElem?_getD, List.getElem?_replicate]
    split <;> simp
  obtain ⟨r, hr, hri⟩ := refs_l0 l hv hn hk ⟨a, b⟩ _ (List.replicate l.length []) [⟨a, b⟩] rfl hT (by rw [hc]; simp) (fun q hq => by rw [List.mem_singleton.1 hq]; exact ⟨h, .refl _⟩) (fun q _ hq => by rw [hvis q] at hq; cases hq) h (.inr (List.mem_singleton.2 rfl))
  obtain ⟨h0, h1, h2, h3⟩ := h
  simp only at h0 h1 h2 h3
  refine ⟨r, ?_, hri⟩
  refine Ev.congr (fun k => by unfold squintref04_Same.f; rfl) (Ev.bind (refValid_ev l (by omega) (fun x hx => by have := hk x hx; omega)) ?_)
  rw [hv]
  refine Ev.congr (fun k => by rw [if_pos rfl, if_neg (by omega), if_neg (by omega), if_neg (by omega), decide_eq_false (by omega)]) ?_
  refine Ev.step (fun k => ?_) hr
  simp only [squintref04_Same.j0]
  rw [if_neg (by simp), if_pos (by omega), if_pos (by omega), if_pos (by simp)]
  rfl
theorem ref_same_no (l : List S43) (hs : l.length < 9223372036854775807) (hk : ∀ x ∈ l, x.f1.length < 9223372036854775807) {a b : Int} (h : validB l = false ∨ ¬ inRange l.length ⟨a, b⟩) : Ev (fun k => squintref04_Same.f k l a b) false := by
  have hj : Ev (fun k => squintref04_Same.j0 k l a b (l.length : Int) true) false := Ev.step (f := fun _ => some false) (fun k => by simp only [squintref04_Same.j0]; rw [if_pos trivial]) (Ev.now _)
  refine Ev.congr (fun k => by unfold squintref04_Same.f; rfl) (Ev.bind (refValid_ev l hs hk) ?_)
  cases hv : validB l
  · exact Ev.congr (fun k => if_neg (by simp)) hj
  · have h' : ¬ inRange l.length ⟨a, b⟩ := by rcases h with h | h; rw [hv] at h; cases h; exact h
    refine Ev.congr (fun k => if_pos rfl) ?_
    by_cases h0 : a < 0
    · exact Ev.congr (fun k => if_pos h0) hj
    refine Ev.congr (fun k => if_neg h0) ?_
    by_cases h1 : a ≥ (l.length : Int)
    · exact Ev.congr (fun k => if_pos h1) hj
    refine Ev.congr (fun k => if_neg h1) ?_
    by_cases h2 : b < 0
    · exact Ev.congr (fun k => if_pos h2) hj
    refine Ev.congr (fun k => if_neg h2) ?_
    have h3 : b ≥ (l.length : Int) := by
      by_cases h3 : b ≥ (l.length : Int)
      · exact h3
      · exact absurd ⟨by simp only; omega, by simp only; omega, by simp only; omega, by simp only; omega⟩ h'
    rw [decide_eq_true h3]
    exact hj
/-- The two of them answer alike. -/
theorem agree (l : List S43) (hn : l.length ≤ 2000) (hk : ∀ x ∈ l, x.f1.length ≤ 1048576) (a b : Int) : ∃ r, Ev (fun k => kinds_Same.f k l a b) r ∧ Ev (fun k => squintref04_Same.f k l a b) r ∧ (r = true ↔ validB l = true ∧ inRange l.length ⟨a, b⟩ ∧ SameP l ⟨a, b⟩) := by
  by_cases h : validB l = true ∧ inRange l.length ⟨a, b⟩
  · obtain ⟨r, h1, i1⟩ := same_ev l h.1 (by omega) (fun x hx => by have := hk x hx; omega) h.2
    obtain ⟨r', h2, i2⟩ := ref_same_ev l h.1 hn hk h.2
    have e : r = r' := by
      have := i1.trans i2.symm
      cases r <;> cases r' <;> simp_all
    subst e
    exact ⟨r, h1, h2, i1.trans ⟨fun hs => ⟨h.1, h.2, hs⟩, fun hs => hs.2.2⟩⟩
  · have h' : validB l = false ∨ ¬ inRange l.length ⟨a, b⟩ := by
      cases hv : validB l
      · exact .inl rfl
      · exact .inr fun hr => h ⟨hv, hr⟩
    exact ⟨false, same_ev_no l (by omega) (fun x hx => by have := hk x hx; omega) h', ref_same_no l (by omega) (fun x hx => by have := hk x hx; omega) h', iff_of_false (by simp) fun hh => h ⟨hh.1, hh.2.1⟩⟩
end Go.Proofs.Ytapagakfckjhdaa.PKindsSame
