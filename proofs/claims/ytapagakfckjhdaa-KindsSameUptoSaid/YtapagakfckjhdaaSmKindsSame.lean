/-
  What Same comes to: two rows are the same if whatever the same way leads to from both has like heads.
-/
import Derived.Test.YtapagakfckjhdaaValKindsSame
set_option autoImplicit false
set_option linter.unusedVariables false
set_option linter.unusedSimpArgs false
namespace Go.Proofs.Ytapagakfckjhdaa.PKindsSame
open Go.RowKit Go.Proofs.YtapagakfckjhdaaW.PrintWords

theorem S59.eq_of {p q : S59} (h0 : p.f0 = q.f0) (h1 : p.f1 = q.f1) : p = q := by cases p; cases q; simp_all
theorem hasB_iff {K : List S59} {q : S59} : hasB K q = true ↔ q ∈ K := by
  unfold hasB
  rw [List.any_eq_true]
  constructor
  · rintro ⟨p, hp, h⟩
    simp only [Bool.and_eq_true, beq_iff_eq] at h
    rw [← S59.eq_of h.1 h.2]; exact hp
  · exact fun h => ⟨q, h, by simp⟩
/-- The i-th pair behind a pair. -/
def succOf (x y : S43) (i : Nat) : S59 := ⟨rd x.f1 (i : Int), rd y.f1 (i : Int)⟩
inductive Reach (l : List S43) : S59 → S59 → Prop
  | refl (p : S59) : Reach l p p
  | step {p q : S59} (i : Nat) (h : Reach l p q) (hx : i < (rd_T43 l q.f0).f1.length) (hy : i < (rd_T43 l q.f1).f1.length) : Reach l p (succOf (rd_T43 l q.f0) (rd_T43 l q.f1) i)
theorem Reach.trans {l : List S43} {p q r : S59} (h : Reach l p q) (k : Reach l q r) : Reach l p r := by
  induction k with
  | refl => exact h
  | step i _ hx hy ih => exact .step i ih hx hy
def SameP (l : List S43) (p : S59) : Prop := ∀ q, Reach l p q → headsB (rd_T43 l q.f0) (rd_T43 l q.f1) = true
theorem SameP.head {l : List S43} {p : S59} (h : SameP l p) : headsB (rd_T43 l p.f0) (rd_T43 l p.f1) = true := h p (.refl p)
theorem SameP.on {l : List S43} {p q : S59} (h : SameP l p) (k : Reach l p q) : SameP l q := fun r hr => h r (k.trans hr)
/-- A set of pairs that are alike at once and closed under the ways. -/
theorem SameP.of_closed {l : List S43} (S : S59 → Prop) (hh : ∀ q, S q → headsB (rd_T43 l q.f0) (rd_T43 l q.f1) = true)
    (hs : ∀ q, S q → ∀ i, i < (rd_T43 l q.f0).f1.length → i < (rd_T43 l q.f1).f1.length → S (succOf (rd_T43 l q.f0) (rd_T43 l q.f1) i)) {p : S59} (hp : S p) : SameP l p := by
  intro q hq
  have : S q := by
    induction hq with
    | refl => exact hp
    | step i _ hx hy ih => exact hs _ ih i hx hy
  exact hh q this
theorem heads_len {x y : S43} (h : headsB x y = true) : x.f1.length = y.f1.length := by
  unfold headsB at h
  simp only [Bool.and_eq_true, beq_iff_eq] at h
  exact h.2.1

/-! the walk through the pairs -/
def push1 (KT : List S59 × List S59) (q : S59) : List S59 × List S59 := if hasB KT.1 q = true then KT else (KT.1 ++ [q], KT.2 ++ [q])
def pushes (x y : S43) (i d : Nat) (KT : List S59 × List S59) : List S59 × List S59 :=
  match d with
  | 0 => KT
  | d + 1 => pushes x y (i + 1) d (push1 KT (succOf x y i))
theorem push1_len (KT : List S59 × List S59) (q : S59) : (push1 KT q).1.length + KT.2.length = KT.1.length + (push1 KT q).2.length ∧ KT.1.length ≤ (push1 KT q).1.length ∧ (push1 KT q).1.length ≤ KT.1.length + 1 := by
  unfold push1; split <;> simp <;> omega
theorem pushes_len (x y : S43) : ∀ (d i : Nat) (KT : List S59 × List S59), (pushes x y i d KT).1.length + KT.2.length = KT.1.length + (pushes x y i d KT).2.length ∧ KT.1.length ≤ (pushes x y i d KT).1.length
  | 0, _, _ => ⟨rfl, Nat.le_refl _⟩
  | d + 1, i, KT => by
    have h1 := push1_len KT (succOf x y i)
    have h2 := pushes_len x y d (i + 1) (push1 KT (succOf x y i))
    simp only [pushes]
    omega
theorem l1_ev (l : List S43) (x y : S43) (hxy : x.f1.length = y.f1.length) (r : Bool) : ∀ (d i : Nat) (K T : List S59), i + d = x.f1.length → (pushes x y i d (K, T)).2.length < 8796093022208 →
    Ev (fun k => same_l0 k l (pushes x y i d (K, T)).1 (pushes x y i d (K, T)).2) r → Ev (fun k => same_l1 k l K T i x y) r
  | 0, i, K, T, h, hl, he => by
    refine Ev.step (fun k => ?_) he
    simp only [same_l1]
    rw [if_neg (by omega)]
    rfl
  | d + 1, i, K, T, h, hl, he => by
    simp only [pushes] at hl he
    cases hb : hasB K (succOf x y i)
    · have e : push1 (K, T) (succOf x y i) = (K ++ [succOf x y i], T ++ [succOf x y i]) := by simp [push1, hb]
      rw [e] at hl he
      refine Ev.step (fun k => ?_) (l1_ev l x y hxy r d (i + 1) _ _ (by omega) hl he)
      have hb' : hasB K ⟨rd x.f1 (i : Int), rd y.f1 (i : Int)⟩ = false := hb
      have hT : T.length < 8796093022208 := by
        have := (pushes_len x y d (i + 1) (K ++ [succOf x y i], T ++ [succOf x y i]))
        simp only [List.length_append, List.length_singleton] at this
        omega
      simp only [same_l1]
      rw [if_pos (by omega), if_pos (by omega), hb', if_neg (by simp), if_pos hT]
      rfl
    · have e : push1 (K, T) (succOf x y i) = (K, T) := by simp [push1, hb]
      rw [e] at hl he
      refine Ev.step (fun k => ?_) (l1_ev l x y hxy r d (i + 1) _ _ (by omega) hl he)
      have hb' : hasB K ⟨rd x.f1 (i : Int), rd y.f1 (i : Int)⟩ = true := hb
      simp only [same_l1]
      rw [if_pos (by omega), if_pos (by omega), hb', if_pos rfl]
/-- What pushing keeps, and what it brings. -/
theorem pushes_inv (x y : S43) (Q : S59 → Prop) : ∀ (d i : Nat) (KT : List S59 × List S59), (∀ j, i ≤ j → j < i + d → Q (succOf x y j)) → (∀ q ∈ KT.1, Q q) → KT.1.Nodup → (∀ q ∈ KT.2, q ∈ KT.1) →
    let KT' := pushes x y i d KT
    (∀ q ∈ KT.1, q ∈ KT'.1) ∧ (∀ q ∈ KT.2, q ∈ KT'.2) ∧ (∀ q ∈ KT'.1, Q q) ∧ KT'.1.Nodup ∧ (∀ q ∈ KT'.2, q ∈ KT'.1) ∧ (∀ q ∈ KT'.1, q ∈ KT.1 ∨ q ∈ KT'.2) ∧ (∀ j, i ≤ j → j < i + d → succOf x y j ∈ KT'.1)
  | 0, i, KT, hq, h1, h2, h3 => ⟨fun q h => h, fun q h => h, h1, h2, h3, fun q h => .inl h, fun j _ _ => by omega⟩
  | d + 1, i, KT, hq, h1, h2, h3 => by
    have hs := hq i (Nat.le_refl _) (by omega)
    have p1 : (∀ q ∈ KT.1, q ∈ (push1 KT (succOf x y i)).1) ∧ (∀ q ∈ KT.2, q ∈ (push1 KT (succOf x y i)).2) ∧ (∀ q ∈ (push1 KT (succOf x y i)).1, Q q) ∧ (push1 KT (succOf x y i)).1.Nodup ∧ (∀ q ∈ (push1 KT (succOf x y i)).2, q ∈ (push1 KT (succOf x y i)).1) ∧
        (∀ q ∈ (push1 KT (succOf x y i)).1, q ∈ KT.1 ∨ q ∈ (push1 KT (succOf x y i)).2) ∧ succOf x y i ∈ (push1 KT (succOf x y i)).1 := by
      unfold push1
      cases hb : hasB KT.1 (succOf x y i)
      · simp only [Bool.false_eq_true, if_false]
        have hn : succOf x y i ∉ KT.1 := fun h => by rw [hasB_iff.2 h] at hb; cases hb
        refine ⟨fun q h => List.mem_append_left _ h, fun q h => List.mem_append_left _ h, fun q h => ?_, ?_, fun q h => ?_, fun q h => ?_, by simp⟩
        · rcases List.mem_append.1 h with h | h
          · exact h1 q h
          · rw [List.mem_singleton.1 h]; exact hs
        · exact List.nodup_append.2 ⟨h2, by simp, fun a ha b hb e => by rw [List.mem_singleton.1 hb] at e; subst e; exact hn ha⟩
        · rcases List.mem_append.1 h with h | h
          · exact List.mem_append_left _ (h3 q h)
          · exact List.mem_append_right _ h
        · rcases List.mem_append.1 h with h | h
          · exact .inl h
          · exact .inr (List.mem_append_right _ h)
      · simp only [if_true]
        exact ⟨fun q h => h, fun q h => h, h1, h2, h3, fun q h => .inl h, hasB_iff.1 hb⟩
    obtain ⟨a1, a2, a3, a4, a5, a6, a7⟩ := p1
    have := pushes_inv x y Q d (i + 1) (push1 KT (succOf x y i)) (fun j h h' => hq j (by omega) (by omega)) a3 a4 a5
    obtain ⟨b1, b2, b3, b4, b5, b6, b7⟩ := this
    refine ⟨fun q h => b1 q (a1 q h), fun q h => b2 q (a2 q h), b3, b4, b5, fun q h => ?_, fun j hj hj' => ?_⟩
    · rcases b6 q h with h | h
      · rcases a6 q h with h | h
        · exact .inl h
        · exact .inr (b2 q h)
      · exact .inr h
    · by_cases e : j = i
      · subst e; exact b1 _ a7
      · exact b7 j (by omega) (by omega)

theorem pigeon : ∀ (N : Nat) (l : List Nat), l.Nodup → (∀ x ∈ l, x < N) → l.length ≤ N
  | 0, [], _, _ => Nat.le_refl _
  | 0, x :: l, _, h => absurd (h x List.mem_cons_self) (by omega)
  | N + 1, l, hn, h => by
    by_cases hm : N ∈ l
    · have h1 := pigeon N (l.erase N) (hn.erase N) (fun x hx => by
        have h2 := h x (List.mem_of_mem_erase hx)
        have h3 : x ≠ N := fun e => by subst e; exact (List.Nodup.not_mem_erase hn) hx
        omega)
      rw [List.length_erase_of_mem hm] at h1
      omega
    · have := pigeon N l hn (fun x hx => by
        have h2 := h x hx
        have h3 : x ≠ N := fun e => by subst e; exact hm hx
        omega)
      omega
def inRange (n : Nat) (q : S59) : Prop := 0 ≤ q.f0 ∧ q.f0 < n ∧ 0 ≤ q.f1 ∧ q.f1 < n
theorem pairs_le {n : Nat} {K : List S59} (hn : K.Nodup) (h : ∀ q ∈ K, inRange n q) : K.length ≤ n * n := by
  have key : ∀ q : S59, inRange n q → q.f0.toNat * n + q.f1.toNat < n * n := fun q ⟨h0, h1, h2, h3⟩ => by
    have e : q.f0.toNat * n + n ≤ n * n := by rw [← Nat.succ_mul]; exact Nat.mul_le_mul_right _ (by omega)
    omega
  have hl := pigeon (n * n) (K.map fun q => q.f0.toNat * n + q.f1.toNat) (by
    rw [List.nodup_iff_pairwise_ne] at hn ⊢
    rw [List.pairwise_map]
    refine List.Pairwise.imp_of_mem ?_ hn
    intro a b ha hb hab e
    obtain ⟨a0, a1, a2, a3⟩ := h a ha
    obtain ⟨b0, b1, b2, b3⟩ := h b hb
    have hn0 : 0 < n := by omega
    have e1 : a.f0.toNat = b.f0.toNat := by
      have h1 : (a.f0.toNat * n + a.f1.toNat) / n = a.f0.toNat := by rw [Nat.mul_comm, Nat.mul_add_div hn0, Nat.div_eq_of_lt (by omega)]; omega
      have h2 : (b.f0.toNat * n + b.f1.toNat) / n = b.f0.toNat := by rw [Nat.mul_comm, Nat.mul_add_div hn0, Nat.div_eq_of_lt (by omega)]; omega
      rw [← h1, ← h2, e]
    rw [e1] at e
    exact hab (S59.eq_of (by omega) (by omega))) (fun x hx => by
    obtain ⟨q, hq, rfl⟩ := List.mem_map.1 hx
    exact key q (h q hq))
  simpa using hl
theorem kid_range {l : List S43} (hv : validB l = true) {i : Nat} (hi : i < l.length) {j : Nat} (hj : j < l[i].f1.length) : 0 ≤ l[i].f1[j] ∧ l[i].f1[j] < (l.length : Int) := by
  have h := List.all_eq_true.1 hv l[i] (List.getElem_mem hi)
  simp only [rightB, Bool.and_eq_true] at h
  have h2 := List.all_eq_true.1 h.1.2 _ (List.getElem_mem hj)
  simpa using h2
theorem row_range {l : List S43} (hv : validB l = true) {a : Int} (h0 : 0 ≤ a) (h1 : a < l.length) {j : Nat} (hj : j < (rd_T43 l a).f1.length) : 0 ≤ rd (rd_T43 l a).f1 (j : Int) ∧ rd (rd_T43 l a).f1 (j : Int) < (l.length : Int) := by
  obtain ⟨i, rfl⟩ := Int.eq_ofNat_of_zero_le h0
  have hi : i < l.length := by omega
  rw [rd43_get hi] at hj ⊢
  rw [rd_get hj]
  exact kid_range hv hi hj
theorem succ_range {l : List S43} (hv : validB l = true) {q : S59} (hq : inRange l.length q) {j : Nat} (hx : j < (rd_T43 l q.f0).f1.length) (hy : j < (rd_T43 l q.f1).f1.length) : inRange l.length (succOf (rd_T43 l q.f0) (rd_T43 l q.f1) j) := by
  obtain ⟨h0, h1, h2, h3⟩ := hq
  have e1 := row_range hv h0 h1 hx
  have e2 := row_range hv h2 h3 hy
  exact ⟨e1.1, e1.2, e2.1, e2.2⟩
theorem last_split (T : List S59) (h : T.length ≠ 0) : rd_T59 T ((T.length : Int) - 1) ∈ T ∧ ∀ q ∈ T, q = rd_T59 T ((T.length : Int) - 1) ∨ q ∈ T.take (T.length - 1) := by
  have e : rd_T59 T ((T.length : Int) - 1) = T[T.length - 1] := by
    unfold rd_T59
    rw [show ((T.length : Int) - 1).toNat = T.length - 1 by omega]
    simp [show T.length - 1 < T.length by omega]
  rw [e]
  refine ⟨List.getElem_mem _, fun q hq => ?_⟩
  obtain ⟨j, hj, rfl⟩ := List.mem_iff_getElem.1 hq
  by_cases hl : j = T.length - 1
  · subst hl; exact .inl rfl
  · exact .inr (List.mem_iff_getElem.2 ⟨j, by rw [List.length_take]; omega, by rw [List.getElem_take]⟩)
theorem l0_ev (l : List S43) (hv : validB l = true) (hn : l.length ≤ 1048576) (p : S59) : ∀ (m : Nat) (K T : List S59), 2 * (l.length * l.length - K.length) + T.length = m → m ≤ 2 * (l.length * l.length) →
    K.Nodup → (∀ q ∈ K, inRange l.length q ∧ Reach l p q) → p ∈ K → (∀ q ∈ T, q ∈ K) →
    (∀ q ∈ K, q ∈ T ∨ (headsB (rd_T43 l q.f0) (rd_T43 l q.f1) = true ∧ ∀ i, i < (rd_T43 l q.f0).f1.length → succOf (rd_T43 l q.f0) (rd_T43 l q.f1) i ∈ K)) →
    ∃ r, Ev (fun k => same_l0 k l K T) r ∧ (r = true ↔ SameP l p) := by
  intro m
  induction m using Nat.strongRecOn with
  | ind m ih =>
    intro K T hm hmb hnd hK hp hT hC
    have hnn : l.length * l.length ≤ 1048576 * 1048576 := Nat.mul_le_mul hn hn
    by_cases h0 : T.length = 0
    · refine ⟨true, Ev.step (f := fun _ => some true) (fun k => by simp only [same_l0]; rw [if_pos h0]) (Ev.now _), iff_of_true rfl ?_⟩
      obtain rfl : T = [] := List.eq_nil_of_length_eq_zero h0
      refine SameP.of_closed (fun q => q ∈ K) (fun q hq => ?_) (fun q hq i hx hy => ?_) hp
      · rcases hC q hq with h | h
        · cases h
        · exact h.1
      · rcases hC q hq with h | h
        · cases h
        · exact h.2 i hx
    · obtain ⟨hlast, hsplit⟩ := last_split T h0
      obtain ⟨u, hu⟩ : ∃ u, rd_T59 T ((T.length : Int) - 1) = u := ⟨_, rfl⟩
      rw [hu] at hlast hsplit
      have huK := hT u hlast
      obtain ⟨⟨d0, d1, d2, d3⟩, hru⟩ := hK u huK
      cases hh : headsB (rd_T43 l u.f0) (rd_T43 l u.f1)
      · refine ⟨false, Ev.step (f := fun _ => some false) (fun k => ?_) (Ev.now _), iff_of_false (by simp) fun hs => ?_⟩
        · simp only [same_l0]
          rw [if_neg h0, hu, if_pos d0, if_pos d1, if_pos d2, if_pos d3, hh, if_neg (by simp)]
        · have := hs u hru
          rw [hh] at this
          cases this
      · have hlen := heads_len hh
        have hinv := pushes_inv (rd_T43 l u.f0) (rd_T43 l u.f1) (fun q => inRange l.length q ∧ Reach l p q) (rd_T43 l u.f0).f1.length 0 (K, T.take (T.length - 1))
          (fun j _ hj => ⟨succ_range hv ⟨d0, d1, d2, d3⟩ (by omega) (by omega), .step j hru (by omega) (by omega)⟩) hK hnd (fun q hq => hT q (List.mem_of_mem_take hq))
        have hlens := pushes_len (rd_T43 l u.f0) (rd_T43 l u.f1) (rd_T43 l u.f0).f1.length 0 (K, T.take (T.length - 1))
        obtain ⟨KT, hKT⟩ : ∃ KT, pushes (rd_T43 l u.f0) (rd_T43 l u.f1) 0 (rd_T43 l u.f0).f1.length (K, T.take (T.length - 1)) = KT := ⟨_, rfl⟩
        rw [hKT] at hinv hlens
        obtain ⟨b1, b2, b3, b4, b5, b6, b7⟩ := hinv
        simp only [List.length_take] at hlens
        have hcard := pairs_le b4 (fun q hq => (b3 q hq).1)
        obtain ⟨r, hr, hri⟩ := ih (2 * (l.length * l.length - KT.1.length) + KT.2.length) (by omega) KT.1 KT.2 rfl (by omega) b4 b3 (b1 p hp) b5 (fun q hq => by
          rcases b6 q hq with h | h
          · rcases hC q h with h2 | h2
            · rcases hsplit q h2 with h3 | h3
              · subst h3
                exact .inr ⟨hh, fun i hi => b7 i (by omega) (by omega)⟩
              · exact .inl (b2 q h3)
            · exact .inr ⟨h2.1, fun i hi => b1 _ (h2.2 i hi)⟩
          · exact .inl h)
        refine ⟨r, ?_, hri⟩
        refine Ev.step (f := fun k => same_l1 k l K (T.take (T.length - 1)) 0 (rd_T43 l u.f0) (rd_T43 l u.f1)) (fun k => ?_) ?_
        · simp only [same_l0]
          rw [if_neg h0, hu, if_pos d0, if_pos d1, if_pos d2, if_pos d3, hh, if_pos rfl]
        · refine l1_ev l _ _ hlen r (rd_T43 l u.f0).f1.length 0 K _ (by omega) (by rw [hKT]; omega) ?_
          rw [hKT]
          exact hr
theorem same_ev (l : List S43) (hv : validB l = true) (hn : l.length ≤ 1048576) (hk : ∀ x ∈ l, x.f1.length < 9223372036854775807) {a b : Int} (h : inRange l.length ⟨a, b⟩) : ∃ r, Ev (fun k => kinds_Same.f k l a b) r ∧ (r = true ↔ SameP l ⟨a, b⟩) := by
  obtain ⟨h0, h1, h2, h3⟩ := h
  have hpos : 0 < l.length * l.length := Nat.mul_pos (by simp only at h0 h1; omega) (by simp only at h0 h1; omega)
  obtain ⟨r, hr, hi⟩ := l0_ev l hv hn ⟨a, b⟩ (2 * (l.length * l.length - 1) + 1) [⟨a, b⟩] [⟨a, b⟩] rfl (by omega) (by simp) (fun q hq => by rw [List.mem_singleton.1 hq]; exact ⟨⟨h0, h1, h2, h3⟩, .refl _⟩) (by simp) (fun q hq => hq) (fun q hq => .inl hq)
  refine ⟨r, Ev.congr (fun k => by unfold kinds_Same.f; rfl) (Ev.bind (valid_ev l (by omega) hk) ?_), hi⟩
  refine Ev.congr (fun k => ?_) hr
  rw [hv, if_pos rfl, if_pos h0, if_pos h1, if_pos h2, if_pos h3]
theorem same_ev_no (l : List S43) (hs : l.length < 9223372036854775807) (hk : ∀ x ∈ l, x.f1.length < 9223372036854775807) {a b : Int} (h : validB l = false ∨ ¬ inRange l.length ⟨a, b⟩) : Ev (fun k => kinds_Same.f k l a b) false := by
  refine Ev.congr (fun k => by unfold kinds_Same.f; rfl) (Ev.bind (valid_ev l hs hk) ?_)
  cases hv : validB l
  · exact Ev.congr (fun k => if_neg (by simp)) (Ev.now false)
  · refine Ev.congr (fun k => if_pos rfl) ?_
    have h' : ¬ inRange l.length ⟨a, b⟩ := by rcases h with h | h; rw [hv] at h; cases h; exact h
    by_cases h0 : 0 ≤ a
    case neg => exact Ev.congr (fun k => if_neg h0) (Ev.now false)
    refine Ev.congr (fun k => if_pos h0) ?_
    by_cases h1 : a < (l.length : Int)
    case neg => exact Ev.congr (fun k => if_neg h1) (Ev.now false)
    refine Ev.congr (fun k => if_pos h1) ?_
    by_cases h2 : 0 ≤ b
    case neg => exact Ev.congr (fun k => if_neg h2) (Ev.now false)
    refine Ev.congr (fun k => if_pos h2) ?_
    by_cases h3 : b < (l.length : Int)
    case neg => exact Ev.congr (fun k => if_neg h3) (Ev.now false)
    exact absurd ⟨h0, h1, h2, h3⟩ h'
end Go.Proofs.Ytapagakfckjhdaa.PKindsSame
