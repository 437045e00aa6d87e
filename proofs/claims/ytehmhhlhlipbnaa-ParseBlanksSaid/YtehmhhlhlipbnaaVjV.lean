/-
 Values of layer 7 as trees.
-/
import Derived.Test.YtehmhhlhlipbnaaVj
set_option autoImplicit false
set_option linter.unusedVariables false
set_option linter.unusedSimpArgs false
namespace Go.VI

inductive V where
 | mk (k n : Int) (l : List V)
def V.k : V → Int | .mk k _ _ => k
def V.n : V → Int | .mk _ n _ => n
def V.l : V → List V | .mk _ _ l => l

theorem V.ind {p : V → Prop} (h : ∀ k n l, (∀ x ∈ l, p x) → p (.mk k n l)) : ∀ v, p v
 | .mk k n l => h k n l (fun x _ => V.ind h x)
mutual
inductive VA (H : AH) : V → List AV → Prop where
 | mk (k n : Int) (l : List V) (s : AV) (h : SA H l s) : VA H (.mk k n l) [.int .i64 k, .int .i64 n, s]
inductive SA (H : AH) : List V → AV → Prop where
 | nil : SA H [] .nils
 | sl (l : List V) (loc : Loc) (off cap : Nat) (cs : List AV) (hr : H.read loc off (l.length * 3) = some cs) (hc : l.length ≤ cap) (hb : l.length ≤ 4611686018427387904) (h : LA H l cs) : SA H l (.sl loc off l.length cap)
inductive LA (H : AH) : List V → List AV → Prop where
 | nil : LA H [] []
 | cons (v : V) (l : List V) (a cs : List AV) (h : VA H v a) (k : LA H l cs) : LA H (v :: l) (a ++ cs)
end

section
variable {H H' : AH}
theorem VA.inv {v : V} {a : List AV} (h : VA H v a) : ∃ k n l s, a = [.int .i64 k, .int .i64 n, s] ∧ v = .mk k n l ∧ SA H l s := by
 cases h with | mk k n l s h => exact ⟨k, n, l, s, rfl, rfl, h⟩
theorem VA.len {v : V} {a : List AV} (h : VA H v a) : a.length = 3 := by cases h; rfl
theorem VA.ones {v : V} {a : List AV} (h : VA H v a) : VI.ones a = true := by
 cases h with
 | mk k n l s h => cases h <;> rfl
theorem LA.len {l : List V} {cs : List AV} (h : LA H l cs) : cs.length = l.length * 3 := by
 induction l generalizing cs with
 | nil => cases h; rfl
 | cons v l ih => cases h with | cons _ _ a cs h k => simp [h.len, ih k]; omega
theorem ones_append : ∀ a b : List AV, VI.ones (a ++ b) = (VI.ones a && VI.ones b)
 | [], b => by simp [VI.ones]
 | x :: a, b => by simp only [List.cons_append, VI.ones, ones_append a b]; cases x.one <;> simp
theorem LA.ones {l : List V} {cs : List AV} (h : LA H l cs) : VI.ones cs = true := by
 induction l generalizing cs with
 | nil => cases h; rfl
 | cons v l ih => cases h with | cons _ _ a cs h k => rw [ones_append, h.ones, ih k]; rfl
theorem LA.append {l r : List V} {cs ds : List AV} (h : LA H l cs) (k : LA H r ds) : LA H (l ++ r) (cs ++ ds) := by
 induction l generalizing cs with
 | nil => cases h; exact k
 | cons v l ih => cases h with | cons _ _ a cs h1 h2 => rw [List.append_assoc]; exact .cons _ _ _ _ h1 (ih h2)
theorem LA.one {v : V} {a : List AV} (h : VA H v a) : LA H [v] a := by
 have := LA.cons v [] a [] h .nil; rwa [List.append_nil] at this
theorem LA.get {l : List V} {cs : List AV} (h : LA H l cs) {i : Nat} (hi : i < l.length) : VA H l[i] ((cs.drop (i * 3)).take 3) := by
 induction l generalizing cs i with
 | nil => simp at hi
 | cons v l ih => cases h with
  | cons _ _ a cs h1 h2 =>
   cases i with
   | zero => simp only [Nat.zero_mul, List.drop_zero, List.getElem_cons_zero]; rw [List.take_append_of_le_length (by rw [h1.len]; omega), List.take_of_length_le (by rw [h1.len]; omega)]; exact h1
   | succ i =>
    have := ih h2 (i := i) (by simpa using hi)
    rw [List.drop_append, List.drop_of_length_le (by rw [h1.len]; omega), List.nil_append, h1.len, show (i + 1) * 3 - 3 = i * 3 by omega]
    exact this
theorem LA.take {l : List V} {cs : List AV} (h : LA H l cs) (m : Nat) : LA H (l.take m) (cs.take (m * 3)) := by
 induction l generalizing cs m with
 | nil => cases h; simp; exact .nil
 | cons v l ih => cases h with
  | cons _ _ a cs h1 h2 =>
   cases m with
   | zero => simp; exact .nil
   | succ m =>
    have e : (a ++ cs).take ((m + 1) * 3) = a ++ cs.take (m * 3) := by
     have hl := h1.len
     rw [List.take_append, List.take_of_length_le (l := a) (by omega), hl, show (m + 1) * 3 - 3 = m * 3 by omega]
    rw [List.take_succ_cons, e]
    exact .cons _ _ _ _ h1 (ih h2 m)
theorem SA.lenOf {l : List V} {s : AV} (h : SA H l s) : VI.lenOf s = some l.length := by
 cases h with
 | nil => rfl
 | sl => rfl
theorem SA.bound {l : List V} {s : AV} (h : SA H l s) : l.length ≤ 4611686018427387904 := by
 cases h with
 | nil => simp
 | sl _ _ _ _ _ _ _ hb _ => exact hb
/-- An element is read. -/
theorem SA.get {l : List V} {s : AV} (h : SA H l s) {i : Nat} (hi : i < l.length) : ∃ loc off cap cs, s = .sl loc off l.length cap ∧ H.read loc (off + i * 3) 3 = some cs ∧ VA H l[i] cs := by
 cases h with
 | nil => simp at hi
 | sl _ loc off cap cs hr hc hb h => exact ⟨loc, off, cap, _, rfl, read_part hr (by omega), h.get hi⟩

mutual
theorem VA.ext (E : Ext H H') : ∀ {v : V} {a : List AV}, VA H v a → VA H' v a
 | _, _, .mk k n l s h => .mk k n l s (SA.ext E h)
theorem SA.ext (E : Ext H H') : ∀ {l : List V} {s : AV}, SA H l s → SA H' l s
 | _, _, .nil => .nil
 | _, _, .sl l loc off cap cs hr hc hb h => .sl l loc off cap cs (E.read hr) hc hb (LA.ext E h)
theorem LA.ext (E : Ext H H') : ∀ {l : List V} {cs : List AV}, LA H l cs → LA H' l cs
 | _, _, .nil => .nil
 | _, _, .cons v l a cs h k => .cons v l a cs (VA.ext E h) (LA.ext E k)
end
end
end Go.VI
namespace Go.VI

mutual
def V.cnt : V → Nat
 | .mk _ _ l => 1 + V.cnts l
def V.cnts : List V → Nat
 | [] => 0
 | x :: r => V.cnt x + V.cnts r
end
/-! lists of numbers -/
inductive SI (H : AH) : List Int → AV → Prop where
 | nil : SI H [] .nils
 | sl (l : List Int) (loc : Loc) (off cap : Nat) (hr : H.read loc off l.length = some (l.map (AV.int .i64))) (hc : l.length ≤ cap) (hb : l.length ≤ 4611686018427387904) : SI H l (.sl loc off l.length cap)
section
variable {H H' : AH}
theorem SI.ext (E : Ext H H') {l : List Int} {s : AV} (h : SI H l s) : SI H' l s := by
 cases h with
 | nil => exact .nil
 | sl _ loc off cap hr hc hb => exact .sl l loc off cap (E.read hr) hc hb
theorem SI.lenOf {l : List Int} {s : AV} (h : SI H l s) : VI.lenOf s = some l.length := by cases h <;> rfl
theorem SI.bound {l : List Int} {s : AV} (h : SI H l s) : l.length ≤ 4611686018427387904 := by
 cases h with
 | nil => simp
 | sl _ _ _ _ _ _ hb => exact hb
theorem SI.get {l : List Int} {s : AV} (h : SI H l s) {i : Nat} (hi : i < l.length) : ∃ loc off cap, s = .sl loc off l.length cap ∧ H.read loc (off + i * 1) 1 = some [.int .i64 l[i]] := by
 cases h with
 | nil => simp at hi
 | sl _ loc off cap hr hc hb =>
  refine ⟨loc, off, cap, rfl, ?_⟩
  rw [read_part hr (by omega), flat_get (AV.int .i64) l hi]

/-! trees of one's own: all their blocks from lo on and below hi -/
mutual
inductive OA (H : AH) : Nat → Nat → V → List AV → Prop where
 | mk (lo hi : Nat) (k n : Int) (l : List V) (s : AV) (h : OS H lo hi l s) : OA H lo hi (.mk k n l) [.int .i64 k, .int .i64 n, s]
inductive OS (H : AH) : Nat → Nat → List V → AV → Prop where
 | nil (lo hi : Nat) (hl : lo ≤ hi) : OS H lo hi [] .nils
 | sl (lo hi b m : Nat) (l : List V) (cs : List AV) (hlo : lo ≤ b) (hm : b < m) (hhi : m ≤ hi) (ha : H.at b = some (.row cs 24 false none)) (hb : l.length ≤ 4611686018427387904) (h : OL H m hi l cs) : OS H lo hi l (.sl (.mt b) 0 l.length l.length)
inductive OL (H : AH) : Nat → Nat → List V → List AV → Prop where
 | nil (lo hi : Nat) (hl : lo ≤ hi) : OL H lo hi [] []
 | cons (lo mid hi : Nat) (v : V) (l : List V) (a cs : List AV) (h : OA H lo mid v a) (k : OL H mid hi l cs) : OL H lo hi (v :: l) (a ++ cs)
end
mutual
theorem OA.le {lo hi : Nat} {v : V} {a : List AV} : OA H lo hi v a → lo ≤ hi
 | .mk _ _ _ _ _ _ h => OS.le h
theorem OS.le {lo hi : Nat} {l : List V} {s : AV} : OS H lo hi l s → lo ≤ hi
 | .nil _ _ hl => hl
 | .sl _ _ _ _ _ _ hlo hm hhi _ _ _ => by omega
theorem OL.le {lo hi : Nat} {l : List V} {cs : List AV} : OL H lo hi l cs → lo ≤ hi
 | .nil _ _ hl => hl
 | .cons _ _ _ _ _ _ _ h k => Nat.le_trans (OA.le h) (OL.le k)
end
theorem OA.len {lo hi : Nat} {v : V} {a : List AV} (h : OA H lo hi v a) : a.length = 3 := by cases h; rfl
theorem OL.len : ∀ {l : List V} {lo hi : Nat} {cs : List AV}, OL H lo hi l cs → cs.length = l.length * 3
 | [], _, _, _, h => by cases h; rfl
 | v :: l, _, _, _, h => by cases h with | cons _ mid _ _ _ a cs h k => simp [h.len, OL.len k]; omega
/-- What is not touched stays. -/
def Same (H H' : AH) (lo hi : Nat) : Prop := ∀ c x, lo ≤ c → c < hi → H.at c = some x → H'.at c = some x
theorem Same.sub {lo hi lo' hi' : Nat} (h : Same H H' lo hi) (h1 : lo ≤ lo') (h2 : hi' ≤ hi) : Same H H' lo' hi' := fun c x a b e => h c x (by omega) (by omega) e
mutual
theorem OA.same {lo hi : Nat} {v : V} {a : List AV} (S : Same H H' lo hi) : OA H lo hi v a → OA H' lo hi v a
 | .mk _ _ _ _ _ _ h => .mk _ _ _ _ _ _ (OS.same S h)
theorem OS.same {lo hi : Nat} {l : List V} {s : AV} (S : Same H H' lo hi) : OS H lo hi l s → OS H' lo hi l s
 | .nil _ _ hl => .nil _ _ hl
 | .sl _ _ b m _ cs hlo hm hhi ha hb h => .sl _ _ b m _ cs hlo hm hhi (S b _ hlo (by omega) ha) hb (OL.same (S.sub (by omega) (by omega)) h)
theorem OL.same {lo hi : Nat} {l : List V} {cs : List AV} (S : Same H H' lo hi) : OL H lo hi l cs → OL H' lo hi l cs
 | .nil _ _ hl => .nil _ _ hl
 | .cons _ mid _ _ _ _ _ h k => .cons _ mid _ _ _ _ _ (OA.same (S.sub (Nat.le_refl _) (OL.le k)) h) (OL.same (S.sub (OA.le h) (Nat.le_refl _)) k)
end
theorem OA.ext {lo hi : Nat} {v : V} {a : List AV} (h : OA H lo hi v a) (E : Ext H H') : OA H' lo hi v a := h.same fun c x _ _ e => E.keep c x e
theorem OS.ext {lo hi : Nat} {l : List V} {s : AV} (h : OS H lo hi l s) (E : Ext H H') : OS H' lo hi l s := h.same fun c x _ _ e => E.keep c x e
theorem OL.ext {lo hi : Nat} {l : List V} {cs : List AV} (h : OL H lo hi l cs) (E : Ext H H') : OL H' lo hi l cs := h.same fun c x _ _ e => E.keep c x e
mutual
theorem OA.va {lo hi : Nat} {v : V} {a : List AV} : OA H lo hi v a → VA H v a
 | .mk _ _ _ _ _ _ h => .mk _ _ _ _ (OS.va h)
theorem OS.va {lo hi : Nat} {l : List V} {s : AV} : OS H lo hi l s → SA H l s
 | .nil _ _ hl => .nil
 | .sl _ _ b m _ cs hlo hm hhi ha hb h => .sl _ (.mt b) 0 _ cs (by
   have hl := OL.len h
   rw [read_mt ha (by omega), List.drop_zero, List.take_of_length_le (by omega)]) (Nat.le_refl _) hb (OL.va h)
theorem OL.va {lo hi : Nat} {l : List V} {cs : List AV} : OL H lo hi l cs → LA H l cs
 | .nil _ _ hl => .nil
 | .cons _ mid _ _ _ _ _ h k => .cons _ _ _ _ (OA.va h) (OL.va k)
end
theorem OA.wide {lo hi lo' hi' : Nat} {v : V} {a : List AV} (h : OA H lo hi v a) (h1 : lo' ≤ lo) (h2 : hi = hi') : OA H lo' hi' v a := by
 subst h2
 cases h with
 | mk _ _ k n l s h =>
  cases h with
  | nil _ _ hl => exact .mk _ _ _ _ _ _ (.nil _ _ (by omega))
  | sl _ _ b m _ cs hlo hm hhi ha hb h => exact .mk _ _ _ _ _ _ (.sl _ _ b m _ cs (by omega) hm hhi ha hb h)
theorem OL.wide {lo lo' hi : Nat} : ∀ {l : List V} {cs : List AV}, OL H lo hi l cs → lo' ≤ lo → OL H lo' hi l cs
 | [], _, h, h1 => by cases h with | nil _ _ hl => exact .nil _ _ (by omega)
 | v :: l, _, h, h1 => by cases h with | cons _ mid _ _ _ a cs h k => exact .cons _ mid _ _ _ _ _ (h.wide h1 rfl) k
theorem OL.append {lo mid hi : Nat} : ∀ {l r : List V} {cs ds : List AV}, OL H lo mid l cs → OL H mid hi r ds → OL H lo hi (l ++ r) (cs ++ ds)
 | [], r, _, ds, h, k => by
  cases h with | nil _ _ hl => exact k.wide hl
 | v :: l, r, _, ds, h, k => by
  cases h with | cons _ m _ _ _ a cs h1 h2 => rw [List.append_assoc]; exact .cons _ m _ _ _ _ _ h1 (OL.append h2 k)
theorem OL.one {lo hi : Nat} {v : V} {a : List AV} (h : OA H lo hi v a) : OL H lo hi [v] a := by
 have := OL.cons lo hi hi v [] a [] h (.nil _ _ (Nat.le_refl _)); rwa [List.append_nil] at this
/-- An element, and the others round it. -/
theorem OL.split {lo hi : Nat} : ∀ {l : List V} {cs : List AV} {i : Nat} (hlt : i < l.length), OL H lo hi l cs →
  ∃ m1 m2 c1 a c2, cs = c1 ++ a ++ c2 ∧ c1.length = i * 3 ∧ OL H lo m1 (l.take i) c1 ∧ OA H m1 m2 l[i] a ∧ OL H m2 hi (l.drop (i + 1)) c2
 | v :: l, _, 0, hlt, h => by
  cases h with
  | cons _ mid _ _ _ a cs h k => exact ⟨lo, mid, [], a, cs, rfl, rfl, .nil _ _ (Nat.le_refl _), h, k⟩
 | v :: l, _, i + 1, hlt, h => by
  cases h with
  | cons _ mid _ _ _ a cs h k =>
   obtain ⟨m1, m2, c1, x, c2, rfl, hl, h1, h2, h3⟩ := OL.split (i := i) (by simpa using hlt) k
   refine ⟨m1, m2, a ++ c1, x, c2, by simp [List.append_assoc], by simp [h.len, hl]; omega, ?_, h2, h3⟩
   rw [List.take_succ_cons]; exact .cons _ mid _ _ _ _ _ h h1
theorem splice_mid {c1 a a' c2 : List AV} {off : Nat} (h1 : c1.length = off) (h2 : a'.length = a.length) : splice (c1 ++ (a ++ c2)) off a' = c1 ++ (a' ++ c2) := by
 subst h1
 unfold splice
 rw [List.take_left, List.append_assoc, show c1 ++ (a ++ c2) = (c1 ++ a) ++ c2 by rw [List.append_assoc], List.drop_append, List.drop_of_length_le (by simp; omega)]
 simp [h2]
/-- what a list's cells are, where they are copied from -/
theorem SA.src {l : List V} {s : AV} (h : SA H l s) : srcLen s = some l.length ∧ ∃ cs, firstSrc H 3 l.length s = some cs ∧ LA H l cs := by
 cases h with
 | nil => exact ⟨rfl, [], rfl, .nil⟩
 | sl _ loc off cap cs hr hc hb h => exact ⟨rfl, cs, hr, h⟩
/-- A hole at a place: whatever tree is put there, the whole is read as what 'plug' makes of it. -/
def Ctx (H : AH) (B0 rb b off lo hi : Nat) (plug : V → V) : Prop :=
 ∀ (H' : AH) (a' : List AV) (v' : V), (∀ c x, B0 ≤ c → H.at c = some x → ¬ (lo ≤ c ∧ c < hi) → c ≠ b → H'.at c = some x) →
  (∀ cells el, H.at b = some (.row cells el false none) → H'.at b = some (.row (splice cells off a') el false none)) → VA H' v' a' →
  ∃ k n s, H'.at rb = some (.row [.int .i64 k, .int .i64 n, s] 24 false none) ∧ VA H' (plug v') [.int .i64 k, .int .i64 n, s]
theorem Ctx.ext {B0 rb b off lo hi : Nat} {plug : V → V} (C : Ctx H B0 rb b off lo hi plug) (E : Ext H H') {cells : List AV} {el : TypeId} (hb : H.at b = some (.row cells el false none)) : Ctx H' B0 rb b off lo hi plug := fun H'' a' v' h1 h2 h3 =>
 C H'' a' v' (fun c x k0 e k1 k2 => h1 c x k0 (E.keep c x e) k1 k2) (fun cells el e => h2 cells el (E.keep b _ e)) h3
theorem splice_self {cells vs : List AV} {off : Nat} (h : (cells.drop off).take vs.length = vs) : splice cells off vs = cells := by
 unfold splice
 have : vs ++ cells.drop (off + vs.length) = cells.drop off := by
  rw [← List.drop_drop]
  have := List.take_append_drop vs.length (cells.drop off)
  rw [h] at this; exact this
 rw [List.append_assoc, this, List.take_append_drop]
theorem set_parts {α : Type} {l : List α} {i : Nat} (hi : i < l.length) (x : α) : l.set i x = l.take i ++ x :: l.drop (i + 1) := by
 rw [List.set_eq_take_append_cons_drop, if_pos hi]
/-- one step further down -/
theorem Ctx.step {B0 rb b off lo hi i : Nat} {plug : V → V} {k n : Int} {l : List V} {s : AV} {cells : List AV} {el : TypeId} (C : Ctx H B0 rb b off lo hi plug) (hB1 : B0 ≤ lo) (hB2 : B0 ≤ b) (hb : H.at b = some (.row cells el false none))
  (hw : (cells.drop off).take 3 = [.int .i64 k, .int .i64 n, s]) (hO : OS H lo hi l s) (hbn : ¬ (lo ≤ b ∧ b < hi)) (hi' : i < l.length) :
  ∃ c cs m1 m2 k' n' l' s', s = .sl (.mt c) 0 l.length l.length ∧ H.at c = some (.row cs 24 false none) ∧ i * 3 + 3 ≤ cs.length ∧ (cs.drop (i * 3)).take 3 = [.int .i64 k', .int .i64 n', s'] ∧ l[i] = .mk k' n' l' ∧ OS H m1 m2 l' s' ∧ ¬ (m1 ≤ c ∧ c < m2) ∧ lo ≤ c ∧ c < m1 ∧
   Ctx H B0 rb c (i * 3) m1 m2 (fun v' => plug (.mk k n (l.set i v'))) := by
 cases hO with
 | nil => simp at hi'
 | sl _ _ c m _ cs hlo hm hhi ha hbb h =>
  have hlen := h.len
  obtain ⟨m1, m2, c1, a, c2, rfl, hc1, h1, h2, h3⟩ := OL.split hi' h
  have hal := h2.len
  have hm1 := h1.le
  have hm2 := h2.le
  have hm3 := h3.le
  obtain ⟨k', n', l', s', rfl, hl, -⟩ := h2.va.inv
  have hos : OS H m1 m2 l' s' := by rw [hl] at h2; cases h2 with | mk _ _ _ _ _ _ h => exact h
  refine ⟨c, _, m1, m2, k', n', l', s', rfl, ha, by omega, ?_, hl, hos, by omega, hlo, by omega, fun H' a' v' f1 f2 f3 => ?_⟩
  ·rw [List.append_assoc, ← hc1, List.drop_left]; rfl
  ·have hrow := f2 _ _ ha
   rw [List.append_assoc, splice_mid hc1 (by rw [f3.len]; rfl)] at hrow
   have hS1 : OL H' m m1 (l.take i) c1 := h1.same fun c0 x q1 q2 e => f1 c0 x (by omega) e (by omega) (by omega)
   have hS3 : OL H' m2 hi (l.drop (i + 1)) c2 := h3.same fun c0 x q1 q2 e => f1 c0 x (by omega) e (by omega) (by omega)
   have hLA : LA H' (l.set i v') (c1 ++ (a' ++ c2)) := by
    rw [set_parts hi']
    exact hS1.va.append (.cons _ _ _ _ f3 hS3.va)
   refine C H' [.int .i64 k, .int .i64 n, .sl (.mt c) 0 l.length l.length] (.mk k n (l.set i v')) (fun c0 x q0 e q1 q2 => f1 c0 x q0 e (by omega) (by omega)) (fun cells' el' e => ?_) (.mk _ _ _ _ ?_)
   ·rw [hb] at e; injection e with e; injection e with e1 e2; subst e1; subst e2
    rw [splice_self (by exact hw)]
    exact f1 b _ hB2 hb (by omega) (by omega)
   ·have := SA.sl (H := H') (l.set i v') (.mt c) 0 l.length (c1 ++ (a' ++ c2)) (by
     have hl3 := hLA.len
     rw [read_mt hrow (by omega), List.drop_zero, List.take_of_length_le (by omega)]) (by simp) (by simpa using hbb) hLA
    simpa using this
end
section
variable {P : Program} {orc : CallF} {nt : Nat} {all l : List Oper} {K : St → Prop} {e : Env} {h : AH} {ds : List ADef}
variable {d : Nat} {ty : TypeId} {pos : String} {aft : Array Edge} {g : Option (Nat × Bool)}
end
end Go.VI
