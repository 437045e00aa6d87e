/-
 ParseBlanks: what stands between tokens is not seen.
-/
import Derived.Test.YtehmhhlhlipbnaaPlain6
set_option autoImplicit false
set_option linter.unusedVariables false
set_option linter.unusedSimpArgs false
namespace Go.Proofs.Ytehmhhlhlipbnaa.Vs
open Go.VI Go.Proofs
/-- bytes without a line's end -/
def noEnd (s : List UInt8) : List UInt8 := s.filter fun c => isRem c
/-- a text as what may stand between two tokens -/
def blanksF (s : List UInt8) : List UInt8 := 32 :: 35 :: (noEnd (s.take 50) ++ [10])
def gapI (bs : List (List UInt8)) (i : Nat) : List UInt8 := match bs[i]? with
 | some b => blanksF b
 | none => [32]
def tailI (src : List UInt8) (bs : List (List UInt8)) : Nat → List TK → List UInt8
 | _, [] => []
 | i, t :: ts => tkF src t ++ (gapI bs i ++ tailI src bs (i + 1) ts)
def reI (bs : List (List UInt8)) : Nat → Nat → List TK → List TK
 | _, _, [] => []
 | i, a, t :: ts => { t with at_ := (a : Int) } :: reI bs (i + 1) (a + (t.len.toNat + (gapI bs i).length)) ts
theorem noEnd_all {s : List UInt8} : ∀ c ∈ noEnd s, isRem c = true := fun c h => by
 unfold noEnd at h
 exact (List.mem_filter.1 h).2
theorem run_app {p : UInt8 → Bool} {m r : List UInt8} {c : UInt8} (h : ∀ x ∈ m, p x = true) (hc : p c = false) : runF p (m ++ c :: r) = m.length := by
 induction m with
 | nil => simp [runF, hc]
 | cons x m ih =>
  simp only [List.cons_append, runF, h x List.mem_cons_self, if_true, List.length_cons]
  rw [ih fun y hy => h y (List.mem_cons_of_mem _ hy)]
theorem app_at {pre r : List UInt8} {c : UInt8} (h : pre.length < (pre ++ c :: r).length) : (pre ++ c :: r)[pre.length] = c := by
 rw [List.getElem_append_right (Nat.le_refl _)]
 simp
theorem drop_app (pre r : List UInt8) : (pre ++ r).drop pre.length = r := by simp
section
variable {tx : Nat → List UInt8}
theorem gap_scn (bs : List (List UInt8)) (i : Nat) (pre post : List UInt8) : Scn tx (pre ++ (gapI bs i ++ post)) pre.length [] (pre.length + (gapI bs i).length) := by
 unfold gapI
 cases bs[i]? with
 | none =>
  simp only [List.singleton_append, List.length_singleton]
  have hl : pre.length < (pre ++ 32 :: post).length := by simp
  exact .bla hl (by rw [app_at hl]; decide) (.nil _)
 | some b =>
  simp only [blanksF, List.cons_append, List.append_assoc, List.singleton_append, List.length_cons, List.length_append, List.length_singleton, List.nil_append]
  have hl : pre.length < (pre ++ 32 :: (35 :: (noEnd (b.take 50) ++ 10 :: post))).length := by simp
  refine .bla hl (by rw [app_at hl]; decide) ?_
  have e1 : pre ++ 32 :: (35 :: (noEnd (b.take 50) ++ 10 :: post)) = (pre ++ [32]) ++ 35 :: (noEnd (b.take 50) ++ 10 :: post) := by simp
  have l1 : pre.length + 1 = (pre ++ [32]).length := by simp
  rw [e1, l1]
  have hl2 : (pre ++ [32]).length < ((pre ++ [32]) ++ 35 :: (noEnd (b.take 50) ++ 10 :: post)).length := by simp
  refine .rem hl2 (by rw [app_at hl2]; decide) (by rw [app_at hl2]; decide) ?_
  rw [drop_app]
  have hrun : runF isRem (35 :: (noEnd (b.take 50) ++ 10 :: post)) = (noEnd (b.take 50)).length + 1 := by
   have := run_app (p := isRem) (m := 35 :: noEnd (b.take 50)) (c := 10) (r := post) (fun x hx => by
    rcases List.mem_cons.1 hx with rfl | hx
    ·decide
    ·exact noEnd_all x hx) (by decide)
   simpa using this
  rw [hrun]
  have e2 : (pre ++ [32]) ++ 35 :: (noEnd (b.take 50) ++ 10 :: post) = (pre ++ 32 :: 35 :: noEnd (b.take 50)) ++ 10 :: post := by simp
  have l2 : (pre ++ [32]).length + ((noEnd (b.take 50)).length + 1) = (pre ++ 32 :: 35 :: noEnd (b.take 50)).length := by simp; omega
  rw [e2, l2]
  have hl3 : (pre ++ 32 :: 35 :: noEnd (b.take 50)).length < ((pre ++ 32 :: 35 :: noEnd (b.take 50)) ++ 10 :: post).length := by simp
  refine .bla hl3 (by rw [app_at hl3]; decide) ?_
  have l3 : (pre ++ 32 :: 35 :: noEnd (b.take 50)).length + 1 = pre.length + ((noEnd (b.take 50)).length + 1 + 1 + 1) := by simp; omega
  rw [l3]; exact .nil _
theorem gap_bla (bs : List (List UInt8)) (i : Nat) (r : List UInt8) : BlaR (gapI bs i ++ r) := by
 unfold gapI
 cases bs[i]? with
 | none => exact .inr ⟨32, r, rfl, by decide⟩
 | some b => exact .inr ⟨32, 35 :: (noEnd (b.take 50) ++ [10]) ++ r, rfl, by decide⟩
theorem gap_len (bs : List (List UInt8)) (i : Nat) : (gapI bs i).length ≤ 53 := by
 unfold gapI
 cases bs[i]? with
 | none => simp
 | some b =>
  have : (noEnd (b.take 50)).length ≤ 50 := Nat.le_trans (List.length_filter_le _ _) (by simp; omega)
  simp only [blanksF, List.length_cons, List.length_append, List.length_nil]; omega
/-- a token where it stands -/
def TokAt (tx : Nat → List UInt8) (src : List UInt8) (t : TK) : Prop := ∃ c n : Nat, (∃ hc : c < src.length, isBla src[c] = false ∧ ¬ ((src[c].toNat : Nat) : Int) = 35) ∧ (tokF tx (src.drop c)).2 = 0 ∧ (tokF tx (src.drop c)).1.len = (n : Int) ∧ t = { (tokF tx (src.drop c)).1 with at_ := (c : Int) }
theorem tail_scn (hb : ∀ k, k < 67 → ∀ c ∈ tx k, isBla c = false) (src : List UInt8) (bs : List (List UInt8)) : ∀ (ts : List TK) (i : Nat) (pre : List UInt8), (∀ t ∈ ts, TokAt tx src t) →
  Scn tx (pre ++ tailI src bs i ts) pre.length (reI bs i pre.length ts) (pre ++ tailI src bs i ts).length ∧ (reI bs i pre.length ts).length = ts.length ∧ ∀ j, j < ts.length → tokR src (pre ++ tailI src bs i ts) ts[j]? (reI bs i pre.length ts)[j]?
 | [], i, pre, _ => ⟨by simp only [tailI, reI, List.append_nil]; exact .nil _, rfl, fun j h => by simp at h⟩
 | t :: ts, i, pre, h => by
  obtain ⟨c, n, ⟨hc, h1, h2⟩, h3, h4, h5⟩ := h t List.mem_cons_self
  obtain ⟨m, hm1, hm2, hm3⟩ := tokF_len (tx := tx) (l := src.drop c) (by simp; omega) h3
  have hmn : m = n := by omega
  subst hmn
  rw [List.length_drop] at hm3
  have htl : t.len = (m : Int) := by rw [h5]; exact h4
  have hta : t.at_ = (c : Int) := by rw [h5]
  have hw : tkF src t = (src.drop c).take m := by unfold tkF; rw [hta, htl]; simp
  have hwl : (tkF src t).length = m := by rw [hw]; simp; omega
  obtain ⟨i1, i2, i3⟩ := tail_scn hb src bs ts (i + 1) (pre ++ (tkF src t ++ gapI bs i)) (fun u hu => h u (List.mem_cons_of_mem _ hu))
  have hS : pre ++ tailI src bs i (t :: ts) = (pre ++ (tkF src t ++ gapI bs i)) ++ tailI src bs (i + 1) ts := by simp [tailI]
  have hpl : (pre ++ (tkF src t ++ gapI bs i)).length = pre.length + (t.len.toNat + (gapI bs i).length) := by simp [hwl, htl]
  have hdrop : (pre ++ tailI src bs i (t :: ts)).drop pre.length = (src.drop c).take m ++ (gapI bs i ++ tailI src bs (i + 1) ts) := by
   rw [drop_app]; simp only [tailI, hw]
  have htok : tokF tx ((pre ++ tailI src bs i (t :: ts)).drop pre.length) = tokF tx (src.drop c) := by
   rw [hdrop]; exact tok_cut hb h3 h4 hm2 (Nat.le_refl _) (by simp; omega) (gap_bla bs i _)
  have hl : pre.length < (pre ++ tailI src bs i (t :: ts)).length := by
   rw [hS]; simp [hwl]; omega
  have hchar : (pre ++ tailI src bs i (t :: ts))[pre.length] = src[c] := by
   have e0 : 0 < ((pre ++ tailI src bs i (t :: ts)).drop pre.length).length := by simp at hl ⊢; omega
   have e1 : ((pre ++ tailI src bs i (t :: ts)).drop pre.length)[0] = (pre ++ tailI src bs i (t :: ts))[pre.length] := by simp
   rw [← e1]
   simp only [hdrop]
   rw [get_cut (l := src.drop c) (by simp; omega) (by omega) (by simp; omega)]
   simp
  have hgap : Scn tx (pre ++ tailI src bs i (t :: ts)) (pre.length + m) [] (pre ++ (tkF src t ++ gapI bs i)).length := by
   have := gap_scn (tx := tx) bs i (pre ++ tkF src t) (tailI src bs (i + 1) ts)
   have e : pre ++ tailI src bs i (t :: ts) = (pre ++ tkF src t) ++ (gapI bs i ++ tailI src bs (i + 1) ts) := by simp [tailI]
   rw [e]
   have l1 : (pre ++ tkF src t).length = pre.length + m := by simp [hwl]
   have l2 : (pre ++ (tkF src t ++ gapI bs i)).length = (pre ++ tkF src t).length + (gapI bs i).length := by simp; omega
   rw [l2, ← l1]; exact this
  have hrest : Scn tx (pre ++ tailI src bs i (t :: ts)) (pre.length + m) (reI bs (i + 1) (pre.length + (t.len.toNat + (gapI bs i).length)) ts) (pre ++ tailI src bs i (t :: ts)).length := by
   rw [← hpl]
   have := hgap.trans (by rw [hS]; exact i1)
   rw [List.nil_append, ← hS] at this; exact this
  refine ⟨?_, by simp only [reI, List.length_cons]; rw [← hpl, i2], fun j hj => ?_⟩
  ·have := Scn.tok (tx := tx) (src := pre ++ tailI src bs i (t :: ts)) (a := pre.length) (n := m) hl (by rw [hchar]; exact h1) (by rw [hchar]; exact h2) (by rw [htok]; exact h3) (by rw [htok]; exact h4) hrest
   rw [htok] at this
   simp only [reI]
   have e : ({ t with at_ := (pre.length : Int) } : TK) = { (tokF tx (src.drop c)).1 with at_ := (pre.length : Int) } := by rw [h5]
   rw [e]; exact this
  ·cases j with
   | zero =>
    simp only [reI, List.getElem?_cons_zero]
    refine ⟨rfl, rfl, fun _ => ?_⟩
    have e : tkF (pre ++ tailI src bs i (t :: ts)) { t with at_ := (pre.length : Int) } = ((pre ++ tailI src bs i (t :: ts)).drop pre.length).take m := by
     unfold tkF; simp [htl]
    rw [e, hdrop, List.take_append_of_le_length (by simp; omega), List.take_take, Nat.min_self, hw]
   | succ j =>
    simp only [reI, List.getElem?_cons_succ]
    have := i3 j (by simpa using hj)
    rw [hpl] at this
    rw [hS]; exact this
/-- the source with other gaps -/
def fullI (tx : Nat → List UInt8) (src : List UInt8) (bs : List (List UInt8)) : List UInt8 := 32 :: tailI src bs 0 (scanF tx src).1
theorem blanks_ok (hb : ∀ k, k < 67 → ∀ c ∈ tx k, isBla c = false) (src : List UInt8) (bs : List (List UInt8)) (hs : (scanF tx src).2.2 = 0) (hl : (fullI tx src bs).length ≤ 65536) (nest : Int) :
  (parseF tx (fullI tx src bs) nest).2.2 = (parseF tx src nest).2.2 ∧ nodesP true (parseF tx src nest).1 (parseF tx (fullI tx src bs) nest).1 := by
 obtain ⟨hscn, _, _⟩ := scanF_scn hs
 have hat : ∀ t ∈ (scanF tx src).1, TokAt tx src t := by
  intro t ht
  obtain ⟨l1, l2, e⟩ := List.append_of_mem ht
  obtain ⟨c, n, _, c2, c3, c4, c5, _⟩ := hscn.split l1 t l2 e
  exact ⟨c, n, c2, c3, c4, c5⟩
 obtain ⟨h1, h2, h3⟩ := tail_scn hb src bs (scanF tx src).1 0 [32] hat
 have hfull : [32] ++ tailI src bs 0 (scanF tx src).1 = fullI tx src bs := rfl
 rw [hfull] at h1 h3
 have h4 : Scn tx (fullI tx src bs) 0 (reI bs 0 1 (scanF tx src).1) (fullI tx src bs).length := .bla (by simp [fullI]) (by simp [fullI]; decide) h1
 have hsc := scn_scanF h4 hl
 have := parse_alike (tx := tx) (s1 := src) (s2 := fullI tx src bs) hs (by rw [hsc]) (by rw [hsc]; exact h2.symm) (fun i hi => by rw [hsc]; exact h3 i hi) nest
 exact ⟨this.1.symm, this.2⟩
end
end Go.Proofs.Ytehmhhlhlipbnaa.Vs
