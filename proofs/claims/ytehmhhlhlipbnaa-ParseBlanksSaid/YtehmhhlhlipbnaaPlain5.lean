/-
 The scanner, step by step: what is cut off behind a token is not seen.
-/
import Derived.Test.YtehmhhlhlipbnaaPlain2
set_option autoImplicit false
set_option linter.unusedVariables false
set_option linter.unusedSimpArgs false
namespace Go.Proofs.Ytehmhhlhlipbnaa.Vs
open Go.VI Go.Proofs
/-- nothing, or what begins with a blank -/
def BlaR (r : List UInt8) : Prop := r = [] ∨ ∃ c r', r = c :: r' ∧ isBla c = true
theorem bla_let {c : UInt8} (h : isBla c = true) : isLet c = false := by
 unfold isBla at h; unfold isLet
 have := of_decide_eq_true h
 unfold blaP at this
 exact decide_eq_false (by unfold letP; omega)
theorem bla_dig {c : UInt8} (h : isBla c = true) : isDig c = false := by
 unfold isBla at h; unfold isDig
 have := of_decide_eq_true h
 unfold blaP at this
 exact decide_eq_false (by unfold digP; omega)
theorem bla_wor {c : UInt8} (h : isBla c = true) : isWor c = false := by unfold isWor; rw [bla_let h, bla_dig h]; rfl
/-- where a run stops -/
theorem runF_spec (p : UInt8 → Bool) : ∀ l : List UInt8, (∀ j, (h : j < l.length) → j < runF p l → p l[j] = true) ∧ (∀ h : runF p l < l.length, p l[runF p l] = false)
 | [] => ⟨fun j h => by simp at h, fun h => by simp [runF] at h⟩
 | c :: r => by
  obtain ⟨h1, h2⟩ := runF_spec p r
  cases hc : p c
  ·simp only [runF, hc]
   exact ⟨fun j h hj => by simp at hj, fun h => by simpa using hc⟩
  ·simp only [runF, hc, if_true]
   refine ⟨fun j h hj => ?_, fun h => ?_⟩
   ·cases j with
    | zero => exact hc
    | succ j => simp only [List.getElem_cons_succ]; exact h1 j (by simpa using h) (by omega)
   ·simp only [List.getElem_cons_succ]; exact h2 (by simpa using h)
theorem get_cut {l r : List UInt8} {k j : Nat} (hk : k ≤ l.length) (hj : j < k) (h : j < (l.take k ++ r).length) : (l.take k ++ r)[j] = l[j]'(by omega) := by
 rw [List.getElem_append_left (by simp; omega), List.getElem_take]
theorem run_cut {p : UInt8 → Bool} (hp : ∀ c, isBla c = true → p c = false) {l r : List UInt8} {k : Nat} (hk : k ≤ l.length) (hn : runF p l ≤ k) (hr : BlaR r) : runF p (l.take k ++ r) = runF p l := by
 obtain ⟨h1, h2⟩ := runF_spec p l
 refine runF_at (by simp; omega) (fun j h hj => ?_) (fun h => ?_)
 ·rw [get_cut hk (by omega) h]; exact h1 j (by omega) hj
 ·by_cases c : runF p l < k
  ·rw [get_cut hk c h]; exact h2 (by omega)
  ·have hkk : runF p l = k := by omega
   rcases hr with rfl | ⟨c, r', rfl, hc⟩
   ·simp at h; omega
   ·rw [List.getElem_append_right (by simp; omega)]
    have : runF p l - (l.take k).length = 0 := by simp; omega
    simp only [this, List.getElem_cons_zero]
    exact hp c hc
theorem take_cut {l r : List UInt8} {k n : Nat} (hk : k ≤ l.length) (hn : n ≤ k) : (l.take k ++ r).take n = l.take n := by
 rw [List.take_append_of_le_length (by simp; omega), List.take_take, Nat.min_eq_left hn]
section
variable {tx : Nat → List UInt8} (hb : ∀ k, k < 67 → ∀ c ∈ tx k, isBla c = false)
include hb
theorem kind_bla {s : List UInt8} (h : ∃ c ∈ s, isBla c = true) : kindF tx s = 0 := by
 obtain ⟨c, hc, hcb⟩ := h
 refine kindF_no (fun e => by rw [e] at hc; cases hc) (fun j hj e => ?_)
 have := hb j hj c (by rw [e]; exact hc)
 rw [this] at hcb; cases hcb
omit hb in
theorem signGo_big {l : List UInt8} : ∀ (n m : Nat), m ≤ n → (∀ k, m < k → k ≤ n → kindF tx (l.take k) = 0) → signGo tx l n = signGo tx l m
 | 0, m, h, _ => by
           obtain rfl : m = 0 := by omega
           rfl
 | n + 1, m, h, hz => by
  by_cases c : m = n + 1
  ·subst c; rfl
  ·simp only [signGo]
   rw [if_neg (fun q => q (hz (n + 1) (by omega) (Nat.le_refl _)))]
   exact signGo_big n m (by omega) (fun k h1 h2 => hz k h1 (by omega))
omit hb in
theorem signGo_at {l : List UInt8} : ∀ n, (signGo tx l n).2 = 0 → ∃ m, 1 ≤ m ∧ m ≤ n ∧ (signGo tx l n).1 = ⟨kindF tx (l.take m), 0, (m : Int), 0⟩ ∧ kindF tx (l.take m) ≠ 0 ∧ ∀ k, m < k → k ≤ n → kindF tx (l.take k) = 0
 | 0, h => by simp [signGo] at h
 | n + 1, h => by
  simp only [signGo] at h ⊢
  by_cases c : kindF tx (l.take (n + 1)) ≠ 0
  ·rw [if_pos c]
   exact ⟨n + 1, by omega, Nat.le_refl _, rfl, c, fun k h1 h2 => by omega⟩
  ·rw [if_neg c] at h ⊢
   obtain ⟨m, h1, h2, h3, h4, h5⟩ := signGo_at n h
   refine ⟨m, h1, by omega, h3, h4, fun k k1 k2 => ?_⟩
   by_cases q : k = n + 1
   ·subst q; exact Classical.byContradiction c
   ·exact h5 k k1 (by omega)
/-- a token is the same, whatever is cut off behind it -/
theorem tok_cut {l r : List UInt8} {k n : Nat} (h0 : (tokF tx l).2 = 0) (hn : (tokF tx l).1.len = (n : Int)) (h1 : 1 ≤ n) (hnk : n ≤ k) (hk : k ≤ l.length) (hr : BlaR r) : tokF tx (l.take k ++ r) = tokF tx l := by
 have hl0 : 0 < l.length := by omega
 have hl' : 0 < (l.take k ++ r).length := by simp; omega
 have hhd : (l.take k ++ r).headD 0 = l.headD 0 := by
  rw [head_at hl', head_at hl0, get_cut hk (by omega) hl']
 unfold tokF at h0 hn ⊢
 rw [hhd]
 by_cases c1 : isLet (l.headD 0) = true
 ·rw [if_pos c1] at h0 hn ⊢
  rw [if_pos c1]
  have hlen : runF isWor l = n := by
   unfold wordF at h0 hn
   by_cases q1 : kindF tx (l.take (runF isWor l)) ≠ 0
   ·rw [if_pos q1] at hn; simp only at hn; omega
   ·rw [if_neg q1] at h0 hn
    by_cases q2 : 32 < ((runF isWor l : Nat) : Int)
    ·rw [if_pos q2] at h0; simp at h0
    ·rw [if_neg q2] at hn; simp only at hn; omega
  unfold wordF
  rw [run_cut (p := isWor) (fun c hc => bla_wor hc) hk (by omega) hr, take_cut hk (by omega)]
 ·rw [if_neg c1] at h0 hn ⊢
  rw [if_neg c1]
  by_cases c2 : isDig (l.headD 0) = true
  ·rw [if_pos c2] at h0 hn ⊢
   rw [if_pos c2]
   have hq : ¬ ((1 < runF isDig l ∧ ((l.headD 0).toNat : Int) = 48) ∨ (runF isDig l < l.length ∧ isLet (l.getD (runF isDig l) 0) = true)) := by
    intro q; unfold numF at h0; rw [if_pos q] at h0; simp at h0
   have hlen : runF isDig l = n := by
    unfold numF at h0 hn
    rw [if_neg hq] at h0 hn
    cases hg : numGo (l.take (runF isDig l)) 0 with
    | none => rw [hg] at h0; simp at h0
    | some v => rw [hg] at hn; simp only at hn; omega
   have hrun := run_cut (p := isDig) (fun c hc => bla_dig hc) hk (by omega) hr
   unfold numF
   rw [hrun, hhd, take_cut hk (by omega), if_neg hq, if_neg]
   rintro (q | ⟨q1, q2⟩)
   ·exact hq (.inl q)
   ·by_cases c : runF isDig l < k
    ·refine hq (.inr ⟨by omega, ?_⟩)
     rw [List.getD_eq_getElem?_getD, List.getElem?_eq_getElem q1, get_cut hk c q1] at q2
     rw [List.getD_eq_getElem?_getD, List.getElem?_eq_getElem (by omega)]; exact q2
    ·have hkk : runF isDig l = k := by omega
     rcases hr with rfl | ⟨c, r', rfl, hc⟩
     ·simp at q1; omega
     ·rw [List.getD_eq_getElem?_getD, List.getElem?_eq_getElem q1, List.getElem_append_right (by simp; omega)] at q2
      have hz : runF isDig l - (l.take k).length = 0 := by simp; omega
      simp only [hz, List.getElem_cons_zero, Option.getD_some] at q2
      rw [bla_let hc] at q2; cases q2
  ·rw [if_neg c2] at h0 hn ⊢
   rw [if_neg c2]
   unfold signF at h0 hn ⊢
   obtain ⟨m, m1, m2, m3, m4, m5⟩ := signGo_at _ h0
   have hmn : m = n := by rw [m3] at hn; simp only at hn; omega
   subst hmn
   have e1 : signGo tx l (min 3 l.length) = signGo tx l m := signGo_big _ _ m2 m5
   have hz : ∀ j, m < j → j ≤ min 3 (l.take k ++ r).length → kindF tx ((l.take k ++ r).take j) = 0 := by
    intro j j1 j2
    by_cases c : j ≤ k
    ·rw [take_cut hk c]; exact m5 j j1 (by omega)
    ·refine kind_bla hb ?_
     rcases hr with rfl | ⟨c, r', rfl, hc⟩
     ·simp at j2; omega
     ·refine ⟨c, ?_, hc⟩
      rw [List.take_append]
      refine List.mem_append_right _ ?_
      have : j - (l.take k).length = (j - (l.take k).length - 1) + 1 := by simp; omega
      rw [this, List.take_succ_cons]; exact List.mem_cons_self
   have e2 : signGo tx (l.take k ++ r) (min 3 (l.take k ++ r).length) = signGo tx (l.take k ++ r) m := signGo_big _ _ (by simp; omega) hz
   rw [e1, e2]
   obtain ⟨m, rfl⟩ : ∃ q, m = q + 1 := ⟨m - 1, by omega⟩
   simp only [signGo]
   rw [take_cut hk hnk, if_pos m4, if_pos m4]
end
/-- the scanner's steps: from a place to a place, and the tokens between -/
inductive Scn (tx : Nat → List UInt8) (src : List UInt8) : Nat → List TK → Nat → Prop where
 | nil (a : Nat) : Scn tx src a [] a
 | bla {a b : Nat} {l : List TK} (h : a < src.length) (h1 : isBla src[a] = true) (k : Scn tx src (a + 1) l b) : Scn tx src a l b
 | rem {a b : Nat} {l : List TK} (h : a < src.length) (h1 : isBla src[a] = false) (h2 : ((src[a].toNat : Nat) : Int) = 35) (k : Scn tx src (a + runF isRem (src.drop a)) l b) : Scn tx src a l b
 | tok {a b n : Nat} {l : List TK} (h : a < src.length) (h1 : isBla src[a] = false) (h2 : ¬ ((src[a].toNat : Nat) : Int) = 35) (h3 : (tokF tx (src.drop a)).2 = 0) (h4 : (tokF tx (src.drop a)).1.len = (n : Int)) (k : Scn tx src (a + n) l b) : Scn tx src a ({ (tokF tx (src.drop a)).1 with at_ := (a : Int) } :: l) b
section
variable {tx : Nat → List UInt8} {src : List UInt8}
theorem Scn.trans {a b c : Nat} {l m : List TK} (h : Scn tx src a l b) (k : Scn tx src b m c) : Scn tx src a (l ++ m) c := by
 induction h with
 | nil a => exact k
 | bla h h1 _ ih => exact .bla h h1 (ih k)
 | rem h h1 h2 _ ih => exact .rem h h1 h2 (ih k)
 | tok h h1 h2 h3 h4 _ ih => exact .tok h h1 h2 h3 h4 (ih k)
theorem rem_pos {a : Nat} (h : a < src.length) (h2 : ((src[a].toNat : Nat) : Int) = 35) : 1 ≤ runF isRem (src.drop a) :=
 runF_pos (by simp; omega) (by simp only [List.getElem_drop, Nat.add_zero]; unfold isRem; exact decide_eq_true (by omega))
theorem Scn.le {a b : Nat} {l : List TK} (h : Scn tx src a l b) : a ≤ b := by
 induction h with
 | nil a => exact Nat.le_refl _
 | bla _ _ _ ih => omega
 | rem _ _ _ _ ih => omega
 | tok _ _ _ _ _ _ ih => omega
/-- what the scanner does is such steps -/
theorem scn_of : ∀ (f a : Nat) (out T : List TK), src.length < f + a → a ≤ src.length → scanGo tx src f a out = (T, 0, 0) → ∃ l, T = out ++ l ∧ Scn tx src a l src.length
 | 0, a, out, T, h1, h2, h => by omega
 | f + 1, a, out, T, h1, h2, h => by
  by_cases c : a < src.length
  ·have hd : 0 < (src.drop a).length := by simp; omega
   by_cases c1 : isBla src[a] = true
   ·rw [scanGo_bla c (by omega) c1] at h
    obtain ⟨l, q1, q2⟩ := scn_of f (a + 1) out T (by omega) (by omega) h
    exact ⟨l, q1, .bla c c1 q2⟩
   ·have c1' : isBla src[a] = false := by simpa using c1
    by_cases c2 : ((src[a].toNat : Nat) : Int) = 35
    ·rw [scanGo_rem c (by omega) c1' c2] at h
     have hle := runF_le isRem (src.drop a)
     rw [List.length_drop] at hle
     have := rem_pos c c2
     obtain ⟨l, q1, q2⟩ := scn_of f _ out T (by omega) (by omega) h
     exact ⟨l, q1, .rem c c1' c2 q2⟩
    ·by_cases c3 : (tokF tx (src.drop a)).2 = 0
     ·obtain ⟨m, hm1, hm2, hm3⟩ := tokF_len hd c3
      rw [List.length_drop] at hm3
      rw [scanGo_tok c (by omega) c1' c2 c3 hm1] at h
      obtain ⟨l, q1, q2⟩ := scn_of f _ _ T (by omega) (by omega) h
      exact ⟨_ :: l, by rw [q1, List.append_assoc]; rfl, .tok c c1' c2 c3 hm1 q2⟩
     ·rw [scanGo_err c (by omega) c1' c2 c3] at h
      injection h with _ h; injection h with _ h
      exact absurd h c3
  ·rw [scanGo_end c (by omega)] at h
   injection h with h _
   obtain rfl : a = src.length := by omega
   exact ⟨[], by simp [h], .nil _⟩
theorem scn_go {a b : Nat} {l : List TK} (h : Scn tx src a l b) : ∀ (f : Nat) (out : List TK), src.length < f + a → ∃ f', src.length < f' + b ∧ scanGo tx src f a out = scanGo tx src f' b (out ++ l) := by
 induction h with
 | nil a => exact fun f out h => ⟨f, h, by rw [List.append_nil]⟩
 | bla h h1 _ ih =>
  intro f out hf
  obtain ⟨f', q1, q2⟩ := ih (f - 1) out (by omega)
  exact ⟨f', q1, by rw [scanGo_bla h (by omega) h1]; exact q2⟩
 | rem h h1 h2 _ ih =>
  intro f out hf
  have := rem_pos h h2
  obtain ⟨f', q1, q2⟩ := ih (f - 1) out (by omega)
  exact ⟨f', q1, by rw [scanGo_rem h (by omega) h1 h2]; exact q2⟩
 | @tok a b n l h h1 h2 h3 h4 _ ih =>
  intro f out hf
  have : 1 ≤ n := by
   obtain ⟨m, hm1, hm2, _⟩ := tokF_len (tx := tx) (l := src.drop a) (by simp; omega) h3
   omega
  obtain ⟨f', q1, q2⟩ := ih (f - 1) _ (by omega)
  exact ⟨f', q1, by rw [scanGo_tok h (by omega) h1 h2 h3 h4, q2, List.append_assoc]; rfl⟩
theorem scanF_scn (h : (scanF tx src).2.2 = 0) : Scn tx src 0 (scanF tx src).1 src.length ∧ src.length ≤ 65536 ∧ (scanF tx src).2.1 = 0 := by
 have hl := (scanF_inc h).2.2.2
 have hz : (scanF tx src) = ((scanF tx src).1, 0, 0) := by
  have : ∀ f a out, (scanGo tx src f a out).2.2 = 0 → (scanGo tx src f a out).2.1 = 0 := by
   intro f
   induction f with
   | zero => intro a out _; rfl
   | succ f ih =>
    intro a out hq
    simp only [scanGo] at hq ⊢
    by_cases c : a < src.length
    ·rw [if_pos c] at hq ⊢
     by_cases c1 : isBla ((src.drop a).headD 0) = true
     ·rw [if_pos c1] at hq ⊢; exact ih _ _ hq
     ·rw [if_neg c1] at hq ⊢
      by_cases c2 : (((src.drop a).headD 0).toNat : Int) = 35
      ·rw [if_pos c2] at hq ⊢; exact ih _ _ hq
      ·rw [if_neg c2] at hq ⊢
       by_cases c3 : (tokF tx (src.drop a)).2 = 0
       ·rw [if_pos c3] at hq ⊢; exact ih _ _ hq
       ·rw [if_neg c3] at hq; exact absurd hq c3
    ·rw [if_neg c]
  have h1 : (scanF tx src).2.1 = 0 := by
   unfold scanF at h ⊢
   rw [if_neg (by omega)] at h ⊢
   exact this _ _ _ h
  generalize scanF tx src = q at *
  obtain ⟨x, y, z⟩ := q
  simp only at h h1
  rw [h, h1]
 refine ⟨?_, hl, by rw [hz]⟩
 have h2 : scanGo tx src (src.length + 1) 0 [] = ((scanF tx src).1, 0, 0) := by
  rw [← hz]; unfold scanF; rw [if_neg (by omega)]
 obtain ⟨l, q1, q2⟩ := scn_of _ _ _ _ (by omega) (by omega) h2
 rw [List.nil_append] at q1
 rw [q1]; exact q2
theorem scn_scanF {l : List TK} (h : Scn tx src 0 l src.length) (hl : src.length ≤ 65536) : scanF tx src = (l, 0, 0) := by
 unfold scanF
 rw [if_neg (by omega)]
 obtain ⟨f', q1, q2⟩ := scn_go h (src.length + 1) [] (by omega)
 rw [q2, List.nil_append]
 exact scanGo_end (by omega) (by omega)
/-- all of a source's tokens, if it begins so -/
theorem scn_begin {a : Nat} {l : List TK} (h : Scn tx src 0 l a) (hz : (scanF tx src).2.2 = 0) : ∃ m, (scanF tx src).1 = l ++ m := by
 obtain ⟨h1, h2, h3⟩ := scanF_scn hz
 have e : ∃ T, scanF tx src = (T, 0, 0) := ⟨(scanF tx src).1, by
  generalize scanF tx src = q at *
  obtain ⟨x, y, z⟩ := q
  simp only at hz h3
  rw [hz, h3]⟩
 obtain ⟨T, e⟩ := e
 rw [e]
 unfold scanF at e
 rw [if_neg (by omega)] at e
 obtain ⟨f', q1, q2⟩ := scn_go h (src.length + 1) [] (by omega)
 rw [q2, List.nil_append] at e
 by_cases hle : a ≤ src.length
 ·obtain ⟨m, q3, _⟩ := scn_of f' a l T q1 hle e
  exact ⟨m, q3⟩
 ·have hge : scanGo tx src f' a l = (l, 0, 0) := by
   cases f' with
   | zero => rfl
   | succ f' => simp only [scanGo]; rw [if_neg (by omega)]
  rw [hge] at e
  injection e with e _
  exact ⟨[], by rw [e, List.append_nil]⟩
/-- a token among the steps -/
theorem Scn.split {a b : Nat} {l : List TK} (h : Scn tx src a l b) : ∀ (l1 : List TK) (t : TK) (l2 : List TK), l = l1 ++ t :: l2 → ∃ c n : Nat, Scn tx src a l1 c ∧ (∃ hc : c < src.length, isBla src[c] = false ∧ ¬ ((src[c].toNat : Nat) : Int) = 35) ∧ (tokF tx (src.drop c)).2 = 0 ∧ (tokF tx (src.drop c)).1.len = (n : Int) ∧ t = { (tokF tx (src.drop c)).1 with at_ := (c : Int) } ∧ Scn tx src (c + n) l2 b := by
 induction h with
 | nil a => intro l1 t l2 e; simp at e
 | bla h h1 _ ih =>
  intro l1 t l2 e
  obtain ⟨c, n, q1, q2, q3, q4, q5, q6⟩ := ih l1 t l2 e
  exact ⟨c, n, .bla h h1 q1, q2, q3, q4, q5, q6⟩
 | rem h h1 h2 _ ih =>
  intro l1 t l2 e
  obtain ⟨c, n, q1, q2, q3, q4, q5, q6⟩ := ih l1 t l2 e
  exact ⟨c, n, .rem h h1 h2 q1, q2, q3, q4, q5, q6⟩
 | @tok a b n l h h1 h2 h3 h4 k ih =>
  intro l1 t l2 e
  cases l1 with
  | nil =>
   simp only [List.nil_append, List.cons.injEq] at e
   obtain ⟨e1, e2⟩ := e
   subst e2
   exact ⟨a, n, .nil a, ⟨h, h1, h2⟩, h3, h4, e1.symm, k⟩
  | cons u l1 =>
   simp only [List.cons_append, List.cons.injEq] at e
   obtain ⟨e1, e2⟩ := e
   obtain ⟨c, m, q1, q2, q3, q4, q5, q6⟩ := ih l1 t l2 e2
   refine ⟨c, m, ?_, q2, q3, q4, q5, q6⟩
   rw [← e1]; exact .tok h h1 h2 h3 h4 q1
theorem drop_cut {r : List UInt8} {e a : Nat} (ha : a ≤ e) (he : e ≤ src.length) : (src.take e ++ r).drop a = (src.drop a).take (e - a) ++ r := by
 rw [List.drop_append_of_le_length (by simp; omega), List.drop_take]
/-- the steps are the same, when what is behind is cut off -/
theorem Scn.cut (hb : ∀ k, k < 67 → ∀ c ∈ tx k, isBla c = false) {r : List UInt8} (hr : BlaR r) {e : Nat} (he : e ≤ src.length) {a b : Nat} {l : List TK} (h : Scn tx src a l b) (hbe : b ≤ e) (hx : b < e ∨ ∃ hq : e < src.length, ((src[e].toNat : Nat) : Int) ≠ 10) : Scn tx (src.take e ++ r) a l b := by
 induction h with
 | nil a => exact .nil a
 | @bla a b l h h1 k ih =>
  have := k.le
  have hl : a < (src.take e ++ r).length := by simp; omega
  exact .bla hl (by rw [get_cut he (by omega) hl]; exact h1) (ih hbe hx)
 | @rem a b l h h1 h2 k ih =>
  have hp := rem_pos h h2
  have hle := k.le
  have hl : a < (src.take e ++ r).length := by simp; omega
  have hrn : runF isRem ((src.take e ++ r).drop a) = runF isRem (src.drop a) := by
   rw [drop_cut (by omega) he]
   obtain ⟨s1, s2⟩ := runF_spec isRem (src.drop a)
   have hd : (src.drop a).length = src.length - a := by simp
   refine runF_at (by simp; omega) (fun j hj hjr => ?_) (fun hj => ?_)
   ·rw [get_cut (by omega) (by omega) hj]; exact s1 j (by omega) hjr
   ·by_cases c : runF isRem (src.drop a) < e - a
    ·rw [get_cut (by omega) c hj]; exact s2 (by omega)
    ·exfalso
     rcases hx with hx | ⟨hq, hx⟩
     ·omega
     ·have := s2 (by omega)
      simp only [List.getElem_drop] at this
      have he2 : a + runF isRem (src.drop a) = e := by omega
      simp only [he2] at this
      unfold isRem at this
      exact (of_decide_eq_false this) (by simpa using hx)
  refine .rem hl (by rw [get_cut he (by omega) hl]; exact h1) (by rw [get_cut he (by omega) hl]; exact h2) ?_
  rw [hrn]; exact ih hbe hx
 | @tok a b n l h h1 h2 h3 h4 k ih =>
  have hle := k.le
  obtain ⟨m, hm1, hm2, hm3⟩ := tokF_len (tx := tx) (l := src.drop a) (by simp; omega) h3
  have hmn : m = n := by omega
  subst hmn
  rw [List.length_drop] at hm3
  have hl : a < (src.take e ++ r).length := by simp; omega
  have ht : tokF tx ((src.take e ++ r).drop a) = tokF tx (src.drop a) := by
   rw [drop_cut (by omega) he]
   exact tok_cut hb h3 h4 hm2 (by omega) (by simp; omega) hr
  have := Scn.tok (tx := tx) (src := src.take e ++ r) (a := a) (b := b) (n := m) (l := l) hl (by rw [get_cut he (by omega) hl]; exact h1) (by rw [get_cut he (by omega) hl]; exact h2) (by rw [ht]; exact h3) (by rw [ht]; exact h4) (ih hbe hx)
  rw [ht] at this; exact this
end
end Go.Proofs.Ytehmhhlhlipbnaa.Vs
