/-
  Values of layer 7 as trees.
-/
import Derived.Test.YtenfjdkeikjhlaaVj
set_option autoImplicit false
set_option linter.unusedVariables false
set_option linter.unusedSimpArgs false
namespace Go.VI

inductive V where
  | mk (k n : Int) (l : List V)
def V.k : V → Int | .mk k _ _ => k
def V.n : V → Int | .mk _ n _ => n
def V.l : V → List V | .mk _ _ l => l

theorem V.ind {p : V → Prop} (h : ∀ k n l, (∀ x ∈ l, p x) → p (.mk k n l)) : ∀ v, p v
  | .mk k n l => h k n l (fun x _ => V.ind h x)
noncomputable def eqV (a b : V) : Bool := @decide (a = b) (Classical.propDecidable _)
theorem eqV_t {a b : V} : eqV a b = true ↔ a = b := by unfold eqV; exact @decide_eq_true_iff _ (Classical.propDecidable _)
theorem eqV_f {a b : V} : eqV a b = false ↔ a ≠ b := by unfold eqV; exact @decide_eq_false_iff_not _ (Classical.propDecidable _)
theorem eqV_head {k n k' n' : Int} {l l' : List V} (h : k ≠ k' ∨ n ≠ n' ∨ l.length ≠ l'.length) : eqV (.mk k n l) (.mk k' n' l') = false := by
  rw [eqV_f]; intro e; injection e with e1 e2 e3; subst e1; subst e2; subst e3; simp at h

mutual
inductive VA (H : AH) : V → List AV → Prop where
  | mk (k n : Int) (l : List V) (s : AV) (h : SA H l s) : VA H (.mk k n l) [.int .i64 k, .int .i64 n, s]
inductive SA (H : AH) : List V → AV → Prop where
  | nil : SA H [] .nils
  | sl (l : List V) (loc : Loc) (off cap : Nat) (cs : List AV) (hr : H.read loc off (l.length * 3) = some cs) (hc : l.length ≤ cap) (hb : l.length ≤ 4611686018427387904) (h : LA H l cs) : SA H l (.sl loc off l.length cap)
inductive LA (H : AH) : List V → List AV → Prop where
  | nil : LA H [] []
  | cons (v : V) (l : List V) (a cs : List AV) (h : VA H v a) (k : LA H l cs) : LA H (v :: l) (a ++ cs)
end

section
variable {H H' : AH}
theorem VA.inv {v : V} {a : List AV} (h : VA H v a) : ∃ k n l s, a = [.int .i64 k, .int .i64 n, s] ∧ v = .mk k n l ∧ SA H l s := by
  cases h with | mk k n l s h => exact ⟨k, n, l, s, rfl, rfl, h⟩
theorem VA.len {v : V} {a : List AV} (h : VA H v a) : a.length = 3 := by cases h; rfl
theorem VA.ones {v : V} {a : List AV} (h : VA H v a) : VI.ones a = true := by
  cases h with
  | mk k n l s h => cases h <;> rfl
theorem LA.len {l : List V} {cs : List AV} (h : LA H l cs) : cs.length = l.length * 3 := by
  induction l generalizing cs with
  | nil => cases h; rfl
  | cons v l ih => cases h with | cons _ _ a cs h k => simp [h.len, ih k]; omega
theorem ones_append : ∀ a b : List AV, VI.ones (a ++ b) = (VI.ones a && VI.ones b)
  | [], b => by simp [VI.ones]
  | x :: a, b => by simp only [List.cons_append, VI.ones, ones_append a b]; cases x.one <;> simp
theorem LA.ones {l : List V} {cs : List AV} (h : LA H l cs) : VI.ones cs = true := by
  induction l generalizing cs with
  | nil => cases h; rfl
  | cons v l ih => cases h with | cons _ _ a cs h k => rw [ones_append, h.ones, ih k]; rfl
theorem LA.append {l r : List V} {cs ds : List AV} (h : LA H l cs) (k : LA H r ds) : LA H (l ++ r) (cs ++ ds) := by
  induction l generalizing cs with
  | nil => cases h; exact k
  | cons v l ih => cases h with | cons _ _ a cs h1 h2 => rw [List.append_assoc]; exact .cons _ _ _ _ h1 (ih h2)
theorem LA.one {v : V} {a : List AV} (h : VA H v a) : LA H [v] a := by
  have := LA.cons v [] a [] h .nil; rwa [List.append_nil] at this
theorem LA.get {l : List V} {cs : List AV} (h : LA H l cs) {i : Nat} (hi : i < l.length) : VA H l[i] ((cs.drop (i * 3)).take 3) := by
  induction l generalizing cs i with
  | nil => simp at hi
  | cons v l ih => cases h with
    | cons _ _ a cs h1 h2 =>
      cases i with
      | zero => simp only [Nat.zero_mul, List.drop_zero, List.getElem_cons_zero]; rw [List.take_append_of_le_length (by rw [h1.len]; omega), List.take_of_length_le (by rw [h1.len]; omega)]; exact h1
      | succ i =>
        have := ih h2 (i := i) (by simpa using hi)
        rw [List.drop_append, List.drop_of_length_le (by rw [h1.len]; omega), List.nil_append, h1.len, show (i + 1) * 3 - 3 = i * 3 by omega]
        exact this
theorem LA.take {l : List V} {cs : List AV} (h : LA H l cs) (m : Nat) : LA H (l.take m) (cs.take (m * 3)) := by
  induction l generalizing cs m with
  | nil => cases h; simp; exact .nil
  | cons v l ih => cases h with
    | cons _ _ a cs h1 h2 =>
      cases m with
      | zero => simp; exact .nil
      | succ m =>
        have e : (a ++ cs).take ((m + 1) * 3) = a ++ cs.take (m * 3) := by
          have hl := h1.len
          rw [List.take_append, List.take_of_length_le (l := a) (by omega), hl, show (m + 1) * 3 - 3 = m * 3 by omega]
        rw [List.take_succ_cons, e]
        exact .cons _ _ _ _ h1 (ih h2 m)
theorem LA.append_inv {l r : List V} {cs : List AV} (h : LA H (l ++ r) cs) : ∃ c1 c2, cs = c1 ++ c2 ∧ LA H l c1 ∧ LA H r c2 := by
  induction l generalizing cs with
  | nil => exact ⟨[], cs, rfl, .nil, h⟩
  | cons v l ih => cases h with
    | cons _ _ a cs h1 h2 =>
      obtain ⟨c1, c2, rfl, h3, h4⟩ := ih h2
      exact ⟨a ++ c1, c2, by rw [List.append_assoc], .cons _ _ _ _ h1 h3, h4⟩
theorem LA.one_inv {v : V} {cs : List AV} (h : LA H [v] cs) : VA H v cs := by
  cases h with
  | cons _ _ a cs h1 h2 => cases h2; rw [List.append_nil]; exact h1
theorem SA.lenOf {l : List V} {s : AV} (h : SA H l s) : VI.lenOf s = some l.length := by
  cases h with
  | nil => rfl
  | sl => rfl
theorem SA.bound {l : List V} {s : AV} (h : SA H l s) : l.length ≤ 4611686018427387904 := by
  cases h with
  | nil => simp
  | sl _ _ _ _ _ _ _ hb _ => exact hb
/-- An element is read. -/
theorem SA.get {l : List V} {s : AV} (h : SA H l s) {i : Nat} (hi : i < l.length) : ∃ loc off cap cs, s = .sl loc off l.length cap ∧ H.read loc (off + i * 3) 3 = some cs ∧ VA H l[i] cs := by
  cases h with
  | nil => simp at hi
  | sl _ loc off cap cs hr hc hb h => exact ⟨loc, off, cap, _, rfl, read_part hr (by omega), h.get hi⟩

mutual
theorem VA.ext (E : Ext H H') : ∀ {v : V} {a : List AV}, VA H v a → VA H' v a
  | _, _, .mk k n l s h => .mk k n l s (SA.ext E h)
theorem SA.ext (E : Ext H H') : ∀ {l : List V} {s : AV}, SA H l s → SA H' l s
  | _, _, .nil => .nil
  | _, _, .sl l loc off cap cs hr hc hb h => .sl l loc off cap cs (E.read hr) hc hb (LA.ext E h)
theorem LA.ext (E : Ext H H') : ∀ {l : List V} {cs : List AV}, LA H l cs → LA H' l cs
  | _, _, .nil => .nil
  | _, _, .cons v l a cs h k => .cons v l a cs (VA.ext E h) (LA.ext E k)
end
end
end Go.VI
