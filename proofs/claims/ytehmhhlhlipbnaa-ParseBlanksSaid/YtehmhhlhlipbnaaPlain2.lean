/-
 What the scanner's tokens are; heights of trees; Parse is always good.
-/
import Derived.Test.YtehmhhlhlipbnaaPlain1
set_option autoImplicit false
set_option linter.unusedVariables false
set_option linter.unusedSimpArgs false
namespace Go.Proofs.Ytehmhhlhlipbnaa.Vs
open Go.VI Go.Proofs
section
variable {tx : Nat → List UInt8}
theorem kindF_range (s : List UInt8) : 0 ≤ kindF tx s ∧ kindF tx s < 67 := by
 unfold kindF
 split
 ·omega
 ·split
  ·rename_i k hk
   have := List.mem_of_find?_eq_some hk
   rw [List.mem_range] at this; omega
  ·omega
theorem signGo_k {l : List UInt8} : ∀ n, 0 ≤ (signGo tx l n).1.k ∧ (signGo tx l n).1.k < 67
 | 0 => by simp [signGo]
 | n + 1 => by
  simp only [signGo]
  split
  ·exact kindF_range _
  ·exact signGo_k n
theorem tokF_k (l : List UInt8) : 0 ≤ (tokF tx l).1.k ∧ (tokF tx l).1.k < 67 := by
 unfold tokF
 split
 ·unfold wordF
  split
  ·exact kindF_range _
  ·split <;> simp
 ·split
  ·unfold numF
   split
   ·simp
   ·split <;> simp
  ·exact signGo_k _
/-- tokens that follow each other, below a -/
def Inc (a : Nat) : List TK → Prop
 | [] => True
 | [t] => 0 ≤ t.at_ ∧ 1 ≤ t.len ∧ t.at_ + t.len ≤ a
 | t :: u :: r => 0 ≤ t.at_ ∧ 1 ≤ t.len ∧ t.at_ + t.len ≤ u.at_ ∧ Inc a (u :: r)
theorem Inc.mono {a b : Nat} (h : a ≤ b) : ∀ {l : List TK}, Inc a l → Inc b l
 | [], _ => trivial
 | [t], ⟨h1, h2, h3⟩ => ⟨h1, h2, by omega⟩
 | t :: u :: r, ⟨h1, h2, h3, h4⟩ => ⟨h1, h2, h3, Inc.mono h (l := u :: r) h4⟩
theorem Inc.snoc {a m : Nat} {t : TK} (h1 : t.at_ = (a : Int)) (h2 : t.len = (m : Int)) (hm : 1 ≤ m) : ∀ {l : List TK}, Inc a l → Inc (a + m) (l ++ [t])
 | [], _ => ⟨by omega, by omega, by omega⟩
 | [u], ⟨q1, q2, q3⟩ => ⟨q1, q2, by omega, by omega, by omega, by omega⟩
 | u :: v :: r, ⟨q1, q2, q3, q4⟩ => ⟨q1, q2, q3, Inc.snoc h1 h2 hm (l := v :: r) q4⟩
theorem Inc.all {a : Nat} : ∀ {l : List TK}, Inc a l → ∀ i, (h : i < l.length) → 0 ≤ l[i].at_ ∧ 1 ≤ l[i].len ∧ l[i].at_ + l[i].len ≤ a
 | [t], h, 0, _ => h
 | [t], h, i + 1, hi => by simp at hi
 | t :: u :: r, h, 0, _ => by
  obtain ⟨h1, h2, h3, h4⟩ := h
  have := Inc.all (l := u :: r) h4 0 (by simp)
  simp only [List.getElem_cons_zero] at this ⊢
  omega
 | t :: u :: r, h, i + 1, hi => by
  obtain ⟨h1, h2, h3, h4⟩ := h
  have := Inc.all (l := u :: r) h4 i (by simpa using hi)
  simpa using this
theorem Inc.lt {a : Nat} : ∀ {l : List TK}, Inc a l → ∀ i j, i < j → (hi : i < l.length) → (hj : j < l.length) → l[i].at_ + l[i].len ≤ l[j].at_
 | [], _, i, j, _, hi, _ => by simp at hi
 | [t], h, i, j, hij, hi, hj => by simp at hi hj; omega
 | t :: u :: r, h, 0, j + 1, _, _, hj => by
  obtain ⟨h1, h2, h3, h4⟩ := h
  simp only [List.getElem_cons_zero, List.getElem_cons_succ]
  by_cases c : j = 0
  ·subst c; exact h3
  ·have := Inc.lt (l := u :: r) h4 0 j (by omega) (by simp) (by simpa using hj)
   have h5 := Inc.all (l := u :: r) h4 0 (by simp)
   simp only [List.getElem_cons_zero] at this h5
   omega
 | t :: u :: r, h, i + 1, j + 1, hij, hi, hj => by
  obtain ⟨h1, h2, h3, h4⟩ := h
  have := Inc.lt (l := u :: r) h4 i j (by omega) (by simpa using hi) (by simpa using hj)
  simpa using this
theorem scanGo_inc {src : List UInt8} : ∀ (f a : Nat) (out : List TK), a ≤ src.length → Inc a out → out.length ≤ a → (∀ t ∈ out, 0 ≤ t.k ∧ t.k < 67) → (scanGo tx src f a out).2.2 = 0 →
  Inc src.length (scanGo tx src f a out).1 ∧ (scanGo tx src f a out).1.length ≤ src.length ∧ ∀ t ∈ (scanGo tx src f a out).1, 0 ≤ t.k ∧ t.k < 67
 | 0, a, out, ha, h1, h2, h3, _ => ⟨h1.mono ha, by simp only [scanGo]; omega, h3⟩
 | f + 1, a, out, ha, h1, h2, h3, h4 => by
  by_cases c : a < src.length
  ·have hd : 0 < (src.drop a).length := by simp; omega
   by_cases c1 : isBla src[a] = true
   ·rw [scanGo_bla c (by omega) c1] at h4 ⊢
    exact scanGo_inc f (a + 1) out (by omega) (h1.mono (by omega)) (by omega) h3 h4
   ·have c1' : isBla src[a] = false := by simpa using c1
    by_cases c2 : ((src[a].toNat : Nat) : Int) = 35
    ·rw [scanGo_rem c (by omega) c1' c2] at h4 ⊢
     have := runF_le isRem (src.drop a)
     rw [List.length_drop] at this
     exact scanGo_inc f _ out (by omega) (h1.mono (by omega)) (by omega) h3 h4
    ·by_cases c3 : (tokF tx (src.drop a)).2 = 0
     ·obtain ⟨m, hm1, hm2, hm3⟩ := tokF_len hd c3
      rw [List.length_drop] at hm3
      rw [scanGo_tok c (by omega) c1' c2 c3 hm1] at h4 ⊢
      refine scanGo_inc f _ _ (by omega) (Inc.snoc (t := { (tokF tx (src.drop a)).1 with at_ := (a : Int) }) rfl hm1 hm2 h1) (by simp; omega) ?_ h4
      intro t ht
      rcases List.mem_append.1 ht with ht | ht
      ·exact h3 t ht
      ·rw [List.mem_singleton] at ht; subst ht; exact tokF_k _
     ·rw [scanGo_err c (by omega) c1' c2 c3] at h4
      exact absurd h4 c3
  ·rw [scanGo_end c (by omega)]
   exact ⟨h1.mono (by omega), by simp only; omega, h3⟩
theorem scanF_inc {src : List UInt8} (h : (scanF tx src).2.2 = 0) : Inc src.length (scanF tx src).1 ∧ (scanF tx src).1.length ≤ src.length ∧ (∀ t ∈ (scanF tx src).1, 0 ≤ t.k ∧ t.k < 67) ∧ src.length ≤ 65536 := by
 unfold scanF at h ⊢
 by_cases c : 65536 < (src.length : Int)
 ·rw [if_pos c] at h; simp at h
 ·rw [if_neg c] at h ⊢
  have := scanGo_inc (src.length + 1) 0 [] (by omega) trivial (by simp) (by simp) h
  exact ⟨this.1, this.2.1, this.2.2, by omega⟩
theorem tok_ok {src : List UInt8} (h : (scanF tx src).2.2 = 0) : TOk src (scanF tx src).1 := by
 obtain ⟨h1, h2, h3, h4⟩ := scanF_inc h
 exact ⟨by omega, fun i hi => h3 _ (List.getElem_mem hi), fun i hi => h1.all i hi⟩
mutual
theorem TR.flat_kids : ∀ (n : Nat) (t : TR), ∀ v ∈ t.flat n, v.ks.length ≤ t.sz
 | n, .mk k a nm m ks, v, h => by
  simp only [TR.flat, List.mem_append, List.mem_singleton] at h
  simp only [TR.sz]
  rcases h with h | rfl
  ·have := flatL_kids n ks v h; omega
  ·show (rootsL n ks).length ≤ _
   rw [rootsL_len]; have := szL_len ks; omega
theorem flatL_kids : ∀ (n : Nat) (l : List TR), ∀ v ∈ flatL n l, v.ks.length ≤ szL l
 | _, [], v, h => by simp [flatL] at h
 | n, t :: r, v, h => by
  simp only [flatL, List.mem_append] at h
  simp only [szL]
  rcases h with h | h
  ·have := TR.flat_kids n t v h; omega
  ·have := flatL_kids _ r v h; omega
end
/-- what a good program is -/
theorem program_tree {src : List UInt8} {T : List TK} (hL : T.length ≤ 65536) : pProgram tx src T (fuelP T) ⟨0, []⟩ ≠ none ∧
  (∀ v s, pProgram tx src T (fuelP T) ⟨0, []⟩ = some (.ok (v, s)) → ∃ n ts, s.a = T.length ∧ s.ns = (TR.mk 46 0 [] n ts).flat 0 ∧ szL ts ≤ T.length) ∧
  (∀ e, pProgram tx src T (fuelP T) ⟨0, []⟩ = some (.error e) → ∃ i, i ≤ T.length ∧ e = plF src T i) := by
 have h := sp_program (tx := tx) (src := src) hL (fuelP T) (by unfold fuelP; omega)
 refine ⟨h.ok, fun v s e => ?_, fun e q => ?_⟩
 ·unfold SP at h; rw [e] at h; exact h
 ·unfold SP at h; rw [q] at h
  obtain ⟨i, _, h1, h2⟩ := h
  exact ⟨i, h1, h2⟩
theorem parse_ok {src : List UInt8} (h : (scanF tx src).2.2 = 0) : ParseOk tx src := by
 have hT := tok_ok h
 obtain ⟨h1, h2, h3⟩ := program_tree (tx := tx) (src := src) hT.len
 have hlen := hT.len
 refine ⟨hT, h1, fun v s e => ?_⟩
 obtain ⟨n, ts, _, q1, q2⟩ := h2 v s e
 have hfl := TR.flat_len 0 (TR.mk 46 0 [] n ts)
 rw [q1, hfl]
 simp only [TR.sz]
 refine ⟨by omega, by omega, fun w hw => ?_⟩
 have := TR.flat_kids 0 _ w hw
 simp only [TR.sz] at this
 omega
end
/-! heights -/
mutual
def TR.ht : TR → Int
 | .mk _ _ _ _ ks => htL 0 ks + 1
def htL : Int → List TR → Int
 | h, [] => h
 | h, t :: r => htL (max h t.ht) r
end
mutual
def TR.hs : TR → List Int
 | .mk _ _ _ _ ks => hsL ks ++ [htL 0 ks + 1]
def hsL : List TR → List Int
 | [] => []
 | t :: r => t.hs ++ hsL r
end
mutual
theorem TR.hs_len : ∀ t : TR, t.hs.length = t.sz
 | .mk _ _ _ _ ks => by simp only [TR.hs, TR.sz, List.length_append, List.length_singleton, hsL_len ks]
theorem hsL_len : ∀ l : List TR, (hsL l).length = szL l
 | [] => rfl
 | t :: r => by simp only [hsL, szL, List.length_append, t.hs_len, hsL_len r]
end
theorem TR.hs_last (t : TR) : ∃ p, t.hs = p ++ [t.ht] ∧ p.length + 1 = t.sz := by
 cases t with
 | mk k a nm n ks => exact ⟨hsL ks, by simp only [TR.hs, TR.ht], by simp only [hsL_len, TR.sz]⟩
theorem hts_pre {l : List ND} {x : List ND} : ∀ n, n ≤ l.length → hts (l ++ x) n = hts l n
 | 0, _ => rfl
 | n + 1, h => by
  have ih := hts_pre (l := l) (x := x) n (by omega)
  simp only [hts]
  rw [List.getElem?_append_left (by omega), ih]
theorem hOf_roots : ∀ (ts : List TR) (n i : Nat) (P Q : List Int) (h : Int), P.length = n → n + szL ts ≤ i → hOf (P ++ (hsL ts ++ Q)) i (rootsL n ts) h = htL h ts
 | [], _, _, _, _, _, _, _ => rfl
 | t :: r, n, i, P, Q, h, hP, hi => by
  simp only [szL] at hi
  have hp := t.sz_pos
  simp only [rootsL, hOf, htL]
  rw [if_pos (by omega)]
  have hg : (P ++ (hsL (t :: r) ++ Q)).getD (((n + t.sz - 1 : Nat) : Int)).toNat 0 = t.ht := by
   obtain ⟨p, h1, h2⟩ := t.hs_last
   rw [Int.toNat_natCast, List.getD_eq_getElem?_getD, List.getElem?_append_right (by omega), hsL, h1]
   rw [show n + t.sz - 1 - P.length = p.length by omega]
   simp
  rw [hg]
  have := hOf_roots r (n + t.sz) i (P ++ t.hs) Q (max h t.ht) (by rw [List.length_append, hP, t.hs_len]) (by omega)
  rw [← this]
  simp only [hsL, List.append_assoc]
mutual
theorem hts_flat : ∀ (t : TR) (pre : List ND), hts (pre ++ t.flat pre.length) (pre.length + t.sz) = hts pre pre.length ++ t.hs
 | .mk k a nm m ks, pre => by
  have ih := hts_flatL ks pre
  have hl : (pre ++ flatL pre.length ks).length = pre.length + szL ks := by rw [List.length_append, flatL_len]
  simp only [TR.flat, TR.sz, TR.hs]
  rw [← List.append_assoc, show pre.length + (szL ks + 1) = (pre.length + szL ks) + 1 by omega]
  simp only [hts]
  rw [hts_pre _ (by omega), ih, List.getElem?_append_right (by omega), hl, Nat.sub_self, List.getElem?_cons_zero]
  simp only
  have := hOf_roots ks pre.length (pre.length + szL ks) (hts pre pre.length) [] 0 (hts_len _ _) (Nat.le_refl _)
  rw [List.append_nil] at this
  rw [this, List.append_assoc]
theorem hts_flatL : ∀ (l : List TR) (pre : List ND), hts (pre ++ flatL pre.length l) (pre.length + szL l) = hts pre pre.length ++ hsL l
 | [], pre => by simp [flatL, szL, hsL]
 | t :: r, pre => by
  have h1 := hts_flat t pre
  have hl : (pre ++ t.flat pre.length).length = pre.length + t.sz := by rw [List.length_append, TR.flat_len]
  have h2 := hts_flatL r (pre ++ t.flat pre.length)
  rw [hl] at h2
  simp only [flatL, szL, hsL]
  rw [← List.append_assoc, ← Nat.add_assoc, h2, h1, List.append_assoc]
end
theorem hts_tree (t : TR) : hts (t.flat 0) (t.flat 0).length = t.hs := by
 have := hts_flat t []
 simpa [TR.flat_len, hts] using this
theorem htL_ge : ∀ (l : List TR) (h : Int), h ≤ htL h l ∧ ∀ t ∈ l, t.ht ≤ htL h l
 | [], h => ⟨Int.le_refl _, by simp⟩
 | t :: r, h => by
  obtain ⟨h1, h2⟩ := htL_ge r (max h t.ht)
  simp only [htL]
  refine ⟨by omega, fun u hu => ?_⟩
  rcases List.mem_cons.1 hu with rfl | hu
  ·omega
  ·exact h2 u hu
mutual
theorem TR.hs_le : ∀ (t : TR), ∀ x ∈ t.hs, x ≤ t.ht
 | .mk k a nm m ks, x, h => by
  simp only [TR.hs, List.mem_append, List.mem_singleton] at h
  simp only [TR.ht]
  rcases h with h | rfl
  ·obtain ⟨t, ht, hx⟩ := hsL_le ks x h
   have := (htL_ge ks 0).2 t ht
   omega
  ·omega
theorem hsL_le : ∀ (l : List TR), ∀ x ∈ hsL l, ∃ t ∈ l, x ≤ t.ht
 | [], x, h => by simp [hsL] at h
 | t :: r, x, h => by
  simp only [hsL, List.mem_append] at h
  rcases h with h | h
  ·exact ⟨t, List.mem_cons_self, TR.hs_le t x h⟩
  ·obtain ⟨u, hu, hx⟩ := hsL_le r x h
   exact ⟨u, List.mem_cons_of_mem _ hu, hx⟩
end
mutual
theorem TR.ht_sz : ∀ (t : TR), t.ht ≤ t.sz
 | .mk k a nm m ks => by
  simp only [TR.ht, TR.sz]
  have := htL_sz ks 0 (szL ks) (by omega) (Nat.le_refl _)
  omega
theorem htL_sz : ∀ (l : List TR) (h : Int) (m : Nat), h ≤ m → szL l ≤ m → htL h l ≤ m
 | [], h, m, h1, h2 => h1
 | t :: r, h, m, h1, h2 => by
  simp only [szL] at h2
  have := t.ht_sz
  simp only [htL]
  exact htL_sz r _ m (by omega) (by omega)
end
theorem deepF_none {nest : Int} : ∀ {hs : List Int} {ns : List ND}, hs.length = ns.length → ((deepF nest hs ns = none) ↔ ∀ x ∈ hs, x ≤ nest)
 | [], [], _ => by simp [deepF]
 | [], _ :: _, h => by simp at h
 | _ :: _, [], h => by simp at h
 | x :: hs, v :: ns, h => by
  simp only [deepF]
  by_cases c : nest < x
  ·simp only [if_pos c]
   constructor
   ·intro h; cases h
   ·intro h; have := h x List.mem_cons_self; omega
  ·simp only [if_neg c]
   rw [deepF_none (by simpa using h)]
   constructor
   ·intro q y hy
    rcases List.mem_cons.1 hy with rfl | hy
    ·omega
    ·exact q y hy
   ·intro q y hy; exact q y (List.mem_cons_of_mem _ hy)
end Go.Proofs.Ytehmhhlhlipbnaa.Vs
