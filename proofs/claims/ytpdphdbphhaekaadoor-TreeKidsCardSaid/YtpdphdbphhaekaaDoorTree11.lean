/-
  In a list that Check takes, each node but the last is the kid of just one, and higher than its kids.
-/
import Derived.Test.YtpdphdbphhaekaaDoorTree10
set_option autoImplicit false
set_option linter.unusedVariables false
set_option linter.unusedSimpArgs false
namespace Go.Proofs.YtpdphdbphhaekaaDoor.Vs
open Go.VI Go.Proofs
variable {orc : CallF}
/-- the nodes below a place that are no kids yet, from the last one on -/
inductive Ch (fs : List Int) : Int → List Int → Prop where
  | nil : Ch fs (-1) []
  | cons (r : Int) (R : List Int) (h : 0 ≤ r) (k : Ch fs (fs.getD r.toNat 0 - 1) R) : Ch fs r (r :: R)
theorem Ch.inv {fs : List Int} {next : Int} {R : List Int} (C : Ch fs next R) : (next = -1 ∧ R = []) ∨ ∃ R', R = next :: R' ∧ 0 ≤ next ∧ Ch fs (fs.getD next.toNat 0 - 1) R' := by
  cases C with
  | nil => exact .inl ⟨rfl, rfl⟩
  | cons r R h k => exact .inr ⟨R, rfl, h, k⟩
theorem getD_le {fs : List Int} (hf : ∀ j, (h : j < fs.length) → fs[j] ≤ j ∧ 0 ≤ fs[j]) (r : Int) (h : 0 ≤ r) : fs.getD r.toNat 0 ≤ r ∧ 0 ≤ fs.getD r.toNat 0 := by
  rw [List.getD_eq_getElem?_getD]
  by_cases q : r.toNat < fs.length
  · have := hf _ q
    rw [List.getElem?_eq_getElem q]
    simp only [Option.getD_some]; omega
  · rw [List.getElem?_eq_none (by omega)]
    simp only [Option.getD_none]; omega
theorem kidsGo_inv {l : List ND} {v : ND} {fs : List Int} {k : Nat} {next : Int} (hk : k < v.ks.length) (h : kidsGo l v fs (k + 1) next = true) : 0 ≤ v.ks[k] ∧ v.ks[k] = next ∧ kidsGo l v fs k (fs.getD v.ks[k].toNat 0 - 1) = true := by
  simp only [kidsGo, List.getElem?_eq_getElem hk] at h
  by_cases c : v.ks[k] < 0 ∨ v.ks[k] ≠ next
  · rw [if_pos c] at h; cases h
  · rw [if_neg c] at h
    cases hw : l[v.ks[k].toNat]? with
    | none => rw [hw] at h; cases h
    | some w =>
      rw [hw] at h
      simp only at h
      by_cases d : fitsP v w k
      · rw [if_pos d] at h; exact ⟨by omega, by omega, h⟩
      · rw [if_neg d] at h; cases h
theorem Ch.split {l : List ND} {v : ND} {fs : List Int} : ∀ (k : Nat) (next : Int) (R : List Int), k ≤ v.ks.length → Ch fs next R → kidsGo l v fs k next = true → ∃ R2, R = (v.ks.take k).reverse ++ R2 ∧ Ch fs (if k = 0 then next else fs.getD (v.ks.headD 0).toNat 0 - 1) R2
  | 0, next, R, _, C, _ => ⟨R, by simp, by simpa using C⟩
  | k + 1, next, R, hk, C, h => by
    obtain ⟨h1, h2, h3⟩ := kidsGo_inv (by omega) h
    cases C with
    | nil => omega
    | cons r R hr C =>
      rw [h2] at h3
      obtain ⟨R2, e, C2⟩ := Ch.split k _ R (by omega) C h3
      refine ⟨R2, ?_, ?_⟩
      · rw [List.take_succ_eq_append_getElem (by omega), h2, e]; simp
      · by_cases c : k = 0
        · subst c
          rw [if_neg (by omega)]
          rw [if_pos rfl] at C2
          have : v.ks.headD 0 = next := by rw [List.headD_eq_head?_getD, List.head?_eq_getElem?, List.getElem?_eq_getElem (by omega), ← h2]; rfl
          rw [this]; exact C2
        · rw [if_neg c] at C2
          rw [if_neg (by omega)]; exact C2
theorem Ch.set {fs : List Int} {i : Nat} {x : Int} (hf : ∀ j, (h : j < fs.length) → fs[j] ≤ j ∧ 0 ≤ fs[j]) {next : Int} {R : List Int} (C : Ch fs next R) (h : next < i) : Ch (fs.set i x) next R := by
  induction C with
  | nil => exact .nil
  | cons r R hr C ih =>
    have := getD_le hf r hr
    refine .cons r R hr ?_
    have e : (fs.set i x).getD r.toNat 0 = fs.getD r.toNat 0 := by
      rw [List.getD_eq_getElem?_getD, List.getD_eq_getElem?_getD, List.getElem?_set_ne (by omega)]
    rw [e]
    exact ih (by omega)
theorem errC_kids {tx : Nat → List UInt8} {l : List ND} {i : Nat} {fs : List Int} (hi : i < l.length) (h : errC tx l i fs = 0) : kidsB l i fs = true := by
  cases hk : kidsB l i fs with
  | true => rfl
  | false =>
    exfalso
    rw [errC_at hi, hk] at h
    by_cases c1 : ¬ knownP l[i].k ∨ l[i].at_ < 0
    · rw [if_pos c1] at h; omega
    · rw [if_neg c1] at h
      by_cases c2 : numB l[i].k l[i].n l[i].ks.length = false
      · rw [if_pos c2] at h; omega
      · rw [if_neg c2] at h
        by_cases c3 : nameB tx l[i] = false
        · rw [if_pos c3] at h; omega
        · rw [if_neg c3, if_pos rfl] at h; omega
theorem firstC_is {l : List ND} {i : Nat} {fs : List Int} (hi : i < l.length) : firstC l i fs = if l[i].ks.length = 0 then (i : Int) else fs.getD (l[i].ks.headD 0).toNat 0 := by
  simp only [firstC, List.getElem?_eq_getElem hi]
  generalize l[i].ks = ks
  cases ks with
  | nil => rfl
  | cons a r => simp
/-- all nodes' kids -/
def kidsOf (l : List ND) : List Int := (l.map (·.ks)).flatten
theorem kidsOf_app (a b : List ND) : kidsOf (a ++ b) = kidsOf a ++ kidsOf b := by simp [kidsOf]
theorem kidsOf_cons (v : ND) (l : List ND) : kidsOf (v :: l) = v.ks ++ kidsOf l := by simp [kidsOf]
theorem kidsOf_nil : kidsOf [] = [] := rfl
theorem kidsOf_cut {l : List ND} {i : Nat} (hi : i < l.length) : kidsOf l = kidsOf (l.take i) ++ (l[i].ks ++ kidsOf (l.drop (i + 1))) := by
  rw [← kidsOf_cons, ← kidsOf_app, ← List.drop_eq_getElem_cons hi, List.take_append_drop]
theorem kidsOf_take {l : List ND} {i : Nat} (hi : i < l.length) : kidsOf (l.take (i + 1)) = kidsOf (l.take i) ++ l[i].ks := by
  rw [List.take_succ_eq_append_getElem hi, kidsOf_app, kidsOf_cons, kidsOf_nil, List.append_nil]
theorem go_perm {tx : Nat → List UInt8} {l : List ND} : ∀ (m i : Nat) (fs R : List Int), i + m = l.length → fs.length = l.length → (∀ j, (h : j < fs.length) → fs[j] ≤ j ∧ 0 ≤ fs[j]) → Ch fs ((i : Int) - 1) R →
    (kidsOf (l.take i) ++ R).Perm ((List.range i).map Int.ofNat) → (∀ j, (h : j < l.length) → j < i → ∀ k, (h2 : k < l[j].ks.length) → 0 ≤ l[j].ks[k] ∧ l[j].ks[k] < j) → (checkGo tx l m i fs).2 = 0 →
    0 < l.length ∧ (kidsOf l ++ [(l.length : Int) - 1]).Perm ((List.range l.length).map Int.ofNat) ∧ ∀ j, (h : j < l.length) → ∀ k, (h2 : k < l[j].ks.length) → 0 ≤ l[j].ks[k] ∧ l[j].ks[k] < j
  | 0, i, fs, R, him, hfl, hf, C, hP, hr, h => by
    obtain rfl : i = l.length := by omega
    by_cases hn : l.length = 0
    · rw [checkGo_none hn] at h; simp at h
    · rw [checkGo_end (q := l.length - 1) (by omega) (by omega) hfl] at h
      by_cases c : (l[l.length - 1]'(by omega)).k = 46 ∧ fs[l.length - 1]'(by omega) = 0
      · refine ⟨by omega, ?_, fun j h1 k h2 => hr j h1 h1 k h2⟩
        rw [List.take_length] at hP
        rcases C.inv with ⟨e, _⟩ | ⟨R, rfl, hr2, C⟩
        · omega
        · have e : fs.getD ((l.length : Int) - 1).toNat 0 = 0 := by
            rw [show ((l.length : Int) - 1).toNat = l.length - 1 by omega, List.getD_eq_getElem?_getD, List.getElem?_eq_getElem (by omega)]
            exact c.2
          rw [e] at C
          rcases C.inv with ⟨_, rfl⟩ | ⟨R2, _, hr3, _⟩
          · exact hP
          · omega
      · rw [if_neg c] at h; simp at h
  | m + 1, i, fs, R, him, hfl, hf, C, hP, hr, h => by
    have hi : i < l.length := by omega
    by_cases he : errC tx l i fs = 0
    · have hk := errC_kids hi he
      have hrg := kidsB_range hi hf hk
      have hfc := firstC_is (fs := fs) hi
      have hle : firstC l i fs ≤ i ∧ 0 ≤ firstC l i fs := by
        rw [hfc]
        by_cases c : l[i].ks.length = 0
        · rw [if_pos c]; omega
        · rw [if_neg c]
          have h0 := hrg 0 (by omega)
          have e : l[i].ks.headD 0 = l[i].ks[0] := by rw [List.headD_eq_head?_getD, List.head?_eq_getElem?, List.getElem?_eq_getElem (by omega)]; rfl
          rw [e]
          have := getD_le hf (l[i].ks[0]) h0.1
          omega
      have hkg : kidsGo l l[i] fs l[i].ks.length (i - 1) = true := by
        rw [kidsB_at hi] at hk
        split at hk
        · cases hk
        · exact hk
      obtain ⟨R2, eR, C2⟩ := Ch.split _ _ R (Nat.le_refl _) C hkg
      rw [List.take_length] at eR
      rw [checkGo_ok (by omega) he rfl, Nat.add_sub_cancel] at h
      refine go_perm m (i + 1) (fs.set i (firstC l i fs)) (i :: R2) (by omega) (by simpa using hfl) (set_le hf hle.1 hle.2) ?_ ?_ ?_ h
      · rw [show ((i + 1 : Nat) : Int) - 1 = i by omega]
        refine .cons _ _ (by omega) ?_
        have e : (fs.set i (firstC l i fs)).getD (i : Int).toNat 0 = firstC l i fs := by
          rw [Int.toNat_natCast, List.getD_eq_getElem?_getD, List.getElem?_set_self (by omega)]; rfl
        rw [e]
        refine Ch.set hf ?_ (by omega)
        rw [hfc]
        by_cases c : l[i].ks.length = 0
        · rw [if_pos c] at C2 ⊢; exact C2
        · rw [if_neg c] at C2 ⊢; exact C2
      · rw [kidsOf_take hi, List.range_succ, List.map_append]
        rw [eR] at hP
        rw [List.perm_iff_count] at hP ⊢
        intro a
        have := hP a
        simp only [List.count_append, List.count_cons, List.count_reverse, List.count_nil, List.map_cons, List.map_nil] at this ⊢
        simp only [Int.ofNat_eq_natCast] at this ⊢
        omega
      · intro j h1 h2 k h3
        by_cases c : j = i
        · subst c; exact hrg k h3
        · exact hr j h1 (by omega) k h3
    · simp only [checkGo] at h
      rw [if_neg he] at h
      exact absurd h he
theorem check_perm {tx : Nat → List UInt8} {l : List ND} (h : (checkB tx l).2 = 0) :
    0 < l.length ∧ (kidsOf l ++ [(l.length : Int) - 1]).Perm ((List.range l.length).map Int.ofNat) ∧ ∀ j, (h : j < l.length) → ∀ k, (h2 : k < l[j].ks.length) → 0 ≤ l[j].ks[k] ∧ l[j].ks[k] < j :=
  go_perm l.length 0 _ [] (by omega) (by simp) (by intro j h; simp) .nil (by simp [kidsOf]) (by intro j h hj; omega) h
theorem kidsOf_len {l : List ND} (hP : (kidsOf l ++ [(l.length : Int) - 1]).Perm ((List.range l.length).map Int.ofNat)) : (kidsOf l).length + 1 = l.length := by
  have := hP.length_eq; simpa using this
theorem kidsOf_nodup {l : List ND} (hP : (kidsOf l ++ [(l.length : Int) - 1]).Perm ((List.range l.length).map Int.ofNat)) : (kidsOf l).Nodup := by
  have h : (kidsOf l ++ [(l.length : Int) - 1]).Nodup := hP.nodup_iff.2 (List.Pairwise.map _ (fun a b e h => e (Int.ofNat.inj h)) List.nodup_range)
  exact (List.nodup_append.1 h).1
theorem kidsOf_at {l : List ND} {i k : Nat} (hi : i < l.length) (hk : k < l[i].ks.length) : kidsOf l = (kidsOf (l.take i) ++ l[i].ks.take k) ++ (l[i].ks[k] :: (l[i].ks.drop (k + 1) ++ kidsOf (l.drop (i + 1)))) := by
  have h1 := kidsOf_cut hi
  have h2 : l[i].ks = l[i].ks.take k ++ (l[i].ks[k] :: l[i].ks.drop (k + 1)) := by rw [← List.drop_eq_getElem_cons hk, List.take_append_drop]
  rw [h1, List.append_assoc]
  congr 1
  generalize kidsOf (l.drop (i + 1)) = X at *
  generalize l[i].ks = ks at *
  rw [← List.cons_append, ← List.append_assoc, ← h2]
theorem kid_new {l : List ND} {i k : Nat} (hi : i < l.length) (hk : k < l[i].ks.length) (hn : (kidsOf l).Nodup) : l[i].ks[k] ∉ kidsOf (l.take i) ++ l[i].ks.take k := by
  rw [kidsOf_at hi hk] at hn
  intro h
  exact (List.nodup_append.1 hn).2.2 _ h _ (by simp) rfl
theorem kid_many {l : List ND} {i k : Nat} (hi : i < l.length) (hk : k ≤ l[i].ks.length) : (kidsOf (l.take i)).length + k ≤ (kidsOf l).length := by
  have h1 := kidsOf_cut hi
  rw [h1]; simp; omega
/-- the marks: whose number is among some -/
def MK (kd : List Bool) (S : List Int) : Prop := ∀ x, (h : x < kd.length) → (kd[x] = true ↔ (x : Int) ∈ S)
theorem MK.none {n : Nat} : MK (List.replicate n false) [] := by intro x h; simp
theorem MK.set {kd : List Bool} {S : List Int} {a : Nat} (M : MK kd S) : MK (kd.set a true) (S ++ [(a : Int)]) := by
  intro x h
  rw [List.getElem_set]
  by_cases c : a = x
  · subst c; simp
  · rw [if_neg c, M x (by simpa using h)]
    simp only [List.mem_append, List.mem_singleton]
    exact ⟨.inl, fun h => h.elim id (fun h => absurd h (by omega))⟩
theorem MK.no {kd : List Bool} {S : List Int} {a : Nat} (M : MK kd S) (h : a < kd.length) (hn : (a : Int) ∉ S) : kd[a] = false := by
  cases hk : kd[a] with
  | false => rfl
  | true => exact absurd ((M a h).1 hk) hn
theorem hts_pre {l : List ND} {j : Nat} : ∀ n, j ≤ n → ∃ r, hts l n = hts l j ++ r
  | 0, h => ⟨[], by obtain rfl : j = 0 := by omega
                    simp⟩
  | n + 1, h => by
    by_cases c : j = n + 1
    · subst c; exact ⟨[], by simp⟩
    · obtain ⟨r, e⟩ := hts_pre (l := l) (j := j) n (by omega)
      exact ⟨_, by simp only [hts]; rw [e, List.append_assoc]⟩
theorem hOf_ge {hs : List Int} {i : Nat} : ∀ (ks : List Int) (h : Int), h ≤ hOf hs i ks h
  | [], h => by simp [hOf]
  | k :: r, h => by
    simp only [hOf]
    have := hOf_ge (hs := hs) (i := i) r (if 0 ≤ k ∧ k < i then max h (hs.getD k.toNat 0) else h)
    by_cases c : 0 ≤ k ∧ k < i
    · rw [if_pos c] at this ⊢; omega
    · rw [if_neg c] at this ⊢; omega
theorem hOf_mem {hs : List Int} {i a : Nat} (ha : a < i) (hl : a < hs.length) : ∀ (ks : List Int) (h : Int), (a : Int) ∈ ks → hs[a] ≤ hOf hs i ks h
  | [], h, hm => by simp at hm
  | k :: r, h, hm => by
    simp only [hOf]
    rcases List.mem_cons.1 hm with e | e
    · subst e
      rw [if_pos (by omega)]
      have := hOf_ge (hs := hs) (i := i) r (max h (hs.getD (a : Int).toNat 0))
      have e2 : hs.getD (a : Int).toNat 0 = hs[a] := by simp [List.getD_eq_getElem?_getD, List.getElem?_eq_getElem hl]
      rw [e2] at this ⊢
      omega
    · exact hOf_mem ha hl r _ e
theorem hts_lt {l : List ND} {i a : Nat} (hi : i < l.length) (ha : a < i) (hm : (a : Int) ∈ l[i].ks) : (hts l l.length)[a]'(by rw [hts_len]; omega) < (hts l l.length)[i]'(by rw [hts_len]; omega) := by
  have e := hts_at hi
  obtain ⟨r, e2⟩ := hts_pre (l := l) (j := i + 1) l.length (by omega)
  have hl := hts_len l i
  have h1 : (hts l l.length)[a]? = some ((hts l i)[a]'(by omega)) := by
    rw [e2, e, List.append_assoc, List.getElem?_append_left (by omega), List.getElem?_eq_getElem (by omega)]
  have h2 : (hts l l.length)[i]? = some (hOf (hts l i) i l[i].ks 0 + 1) := by
    rw [e2, e, List.append_assoc, List.getElem?_append_right (by omega), hl, Nat.sub_self]; rfl
  have h3 := hOf_mem ha (by omega : a < (hts l i).length) l[i].ks 0 hm
  have h4 := (List.getElem?_eq_some_iff.1 h1).2
  have h5 := (List.getElem?_eq_some_iff.1 h2).2
  omega
end Go.Proofs.YtpdphdbphhaekaaDoor.Vs
