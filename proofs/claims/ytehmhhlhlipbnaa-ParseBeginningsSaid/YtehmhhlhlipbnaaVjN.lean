/-
 Nodes, as rows of the abstract machine's heap; strings.
-/
import Derived.Test.YtehmhhlhlipbnaaVjV
import Derived.Test.YtehmhhlhlipbnaaVj
set_option autoImplicit false
set_option linter.unusedVariables false
set_option linter.unusedSimpArgs false
namespace Go.VI
theorem not_f {b : Bool} (h : (!b) = false) : b = true := by cases b <;> first | rfl | cases h
theorem not_t {b : Bool} (h : (!b) = true) : b = false := by cases b <;> first | rfl | cases h
structure ND where
 k : Int
 at_ : Int
 ks : List Int
 nm : List UInt8
 n : Int
inductive NA (H : AH) : ND → List AV → Prop where
 | mk (k a : Int) (ks : List Int) (nm : List UInt8) (n : Int) (s : AV) (h : SI H ks s) : NA H ⟨k, a, ks, nm, n⟩ [.int .i64 k, .int .i64 a, s, .str nm, .int .i64 n]
inductive NL (H : AH) : List ND → List AV → Prop where
 | nil : NL H [] []
 | cons (v : ND) (l : List ND) (a cs : List AV) (h : NA H v a) (k : NL H l cs) : NL H (v :: l) (a ++ cs)
inductive NS (H : AH) : List ND → AV → Prop where
 | nil : NS H [] .nils
 | sl (l : List ND) (loc : Loc) (off cap : Nat) (cs : List AV) (hr : H.read loc off (l.length * 5) = some cs) (hc : l.length ≤ cap) (hb : l.length ≤ 4611686018427387904) (h : NL H l cs) : NS H l (.sl loc off l.length cap)
section
variable {H H' : AH}
theorem SI.one {l : List Int} {s : AV} (h : SI H l s) : s.one = true := by cases h <;> rfl
theorem NA.inv {v : ND} {a : List AV} (h : NA H v a) : ∃ s, a = [.int .i64 v.k, .int .i64 v.at_, s, .str v.nm, .int .i64 v.n] ∧ SI H v.ks s := by
 cases h with | mk k a ks nm n s h => exact ⟨s, rfl, h⟩
theorem NA.of {v : ND} {s : AV} (h : SI H v.ks s) : NA H v [.int .i64 v.k, .int .i64 v.at_, s, .str v.nm, .int .i64 v.n] := .mk v.k v.at_ v.ks v.nm v.n s h
theorem NA.len {v : ND} {a : List AV} (h : NA H v a) : a.length = 5 := by cases h; rfl
theorem NA.ones {v : ND} {a : List AV} (h : NA H v a) : VI.ones a = true := by
 cases h with | mk k a ks nm n s h => cases h <;> rfl
theorem NA.ext (E : Ext H H') {v : ND} {a : List AV} (h : NA H v a) : NA H' v a := by
 cases h with | mk k a ks nm n s h => exact .mk _ _ _ _ _ _ (h.ext E)
theorem NL.len {l : List ND} {cs : List AV} (h : NL H l cs) : cs.length = l.length * 5 := by
 induction h with
 | nil => rfl
 | cons v l a cs h k ih => simp [h.len, ih]; omega
theorem NL.ext (E : Ext H H') {l : List ND} {cs : List AV} (h : NL H l cs) : NL H' l cs := by
 induction h with
 | nil => exact .nil
 | cons v l a cs h k ih => exact .cons _ _ _ _ (h.ext E) ih
theorem NL.get {l : List ND} {cs : List AV} (h : NL H l cs) {i : Nat} (hi : i < l.length) : NA H l[i] ((cs.drop (i * 5)).take 5) := by
 induction h generalizing i with
 | nil => simp at hi
 | cons v l a cs h k ih =>
  cases i with
  | zero => simp only [Nat.zero_mul, List.drop_zero, List.getElem_cons_zero]; rw [List.take_append_of_le_length (by rw [h.len]; omega), List.take_of_length_le (by rw [h.len]; omega)]; exact h
  | succ i =>
   have := ih (i := i) (by simpa using hi)
   rw [List.drop_append, List.drop_of_length_le (by rw [h.len]; omega), List.nil_append, h.len, show (i + 1) * 5 - 5 = i * 5 by omega]
   exact this
theorem NS.lenOf {l : List ND} {s : AV} (h : NS H l s) : VI.lenOf s = some l.length := by cases h <;> rfl
theorem NS.bound {l : List ND} {s : AV} (h : NS H l s) : l.length ≤ 4611686018427387904 := by
 cases h with
 | nil => simp
 | sl _ _ _ _ _ _ _ hb _ => exact hb
theorem NS.one {l : List ND} {s : AV} (h : NS H l s) : s.one = true := by cases h <;> rfl
theorem NS.ext (E : Ext H H') {l : List ND} {s : AV} (h : NS H l s) : NS H' l s := by
 cases h with
 | nil => exact .nil
 | sl _ loc off cap cs hr hc hb h => exact .sl l loc off cap cs (E.read hr) hc hb (h.ext E)
/-- An element is read. -/
theorem NS.get {l : List ND} {s : AV} (h : NS H l s) {i : Nat} (hi : i < l.length) : ∃ loc off cap sk, s = .sl loc off l.length cap ∧ H.read loc (off + i * 5) 5 = some [.int .i64 l[i].k, .int .i64 l[i].at_, sk, .str l[i].nm, .int .i64 l[i].n] ∧ SI H l[i].ks sk := by
 cases h with
 | nil => simp at hi
 | sl _ loc off cap cs hr hc hb h =>
  obtain ⟨sk, h1, h2⟩ := (h.get hi).inv
  have := read_part hr (o := i * 5) (m := 5) (by omega)
  rw [h1] at this
  exact ⟨loc, off, cap, sk, rfl, this, h2⟩
end
section
variable {P : Program} {e : Env} {h : AH} {x y : Operand} {t t' : TypeId} {a b : List UInt8}
theorem eqS_dec (a b : List UInt8) : eqS a b = decide (a = b) := eqS_eq a b
theorem r_eqS (hu : P.underlying t = some .string) (hx : ev e x = some (.str a)) (hy : ev e y = some (.str b)) : readOp P e h (.binOp .eql t x y t') = some (.bool (decide (a = b))) := by
 simp only [readOp, doBin, hx, hy, binA, strOp, eqS_dec]
end
end Go.VI
