/-
  What the abstract machine's values and heap stand for in the model's world.
-/
import Derived.Test.YtenfjdkeikjhlaaViB
import Derived.Below
import Derived.Laws.Cells
import Derived.Laws.Append
import Derived.Laws.OwnMore
set_option autoImplicit false
namespace Go.VI
open Go.RowKit

/-- Where an abstract block lies: block, first cell, an element's size, how many cells are known, how many there are. -/
structure Pl where
  c : Nat
  o : Nat
  e : Nat
  n : Nat
  r : Nat
abbrev Bt := Nat → Option Pl
abbrev Mem := Nat → Nat → Option Value
def Bt.le (β β' : Bt) : Prop := ∀ b p, β b = some p → β' b = some p
theorem Bt.le_refl (β : Bt) : β.le β := fun _ _ h => h
theorem Bt.le_trans {a b c : Bt} (h : a.le b) (k : b.le c) : a.le c := fun x p e => k x p (h x p e)

def CapR (p : Pl) (off cap cap' : Nat) : Prop := (off + cap * p.e = p.n → off + cap' * p.e = p.r) ∧ (off + cap * p.e ≠ p.n → cap' = cap)
def CapL (β : Bt) (l : Loc) (off cap cap' : Nat) : Prop :=
  match l with
  | .im _ => cap' = cap
  | .mt b => ∃ p, β b = some p ∧ CapR p off cap cap'
theorem CapL.mono {β β' : Bt} (h : β.le β') {l : Loc} {off cap cap' : Nat} (k : CapL β l off cap cap') : CapL β' l off cap cap' := by
  cases l with
  | im _ => exact k
  | mt b => obtain ⟨p, e, c⟩ := k; exact ⟨p, h _ _ e, c⟩

mutual
inductive LocR (β : Bt) (M : Mem) : Loc → Nat → Nat → Prop where
  | mt (b : Nat) (p : Pl) (h : β b = some p) : LocR β M (.mt b) p.c p.o
  | im (cells : List AV) (vs : List Value) (c o : Nat) (h : VRs β M cells vs) (hm : ∀ i v, vs[i]? = some v → M c (o + i) = some v) : LocR β M (.im cells) c o
inductive VR (β : Bt) (M : Mem) : AV → Value → Prop where
  | bool (b : Bool) : VR β M (.bool b) (.bool b)
  | int (k : IntKind) (n : Int) : VR β M (.int k n) (.int k n)
  | str (s : ByteArray) : VR β M (.str s.data.toList) (.string s)
  | nilp : VR β M .nilp (.pointer none)
  | ptr (l : Loc) (off c o : Nat) (h : LocR β M l c o) : VR β M (.ptr l off) (.pointer (some ⟨c, o + off, none⟩))
  | nils : VR β M .nils (.slice none 0 0)
  | sl (l : Loc) (off len cap cap' c o : Nat) (h : LocR β M l c o) (hc : CapL β l off cap cap') : VR β M (.sl l off len cap) (.slice (some ⟨c, o + off, none⟩) len cap')
  | sl0 (l : Loc) (off cap c o : Nat) (a : Addr) (h : LocR β M l c o) (hc : CapL β l off cap 0) : VR β M (.sl l off 0 cap) (.slice (some a) 0 0)
  | nilm : VR β M .nilm (.map none)
  | map (b : Nat) (p : Pl) (h : β b = some p) : VR β M (.map b) (.map (some p.c))
  | fn (f : Fn) (a b : List AV) (vs ws : List Value) (h : VRs β M a vs) (k : VRs β M b ws) : VR β M (.fn f a b) (.func f vs.toArray ws.toArray)
  | nilf : VR β M .nilf .nilFunc
  | ifc (t : TypeId) (a : AV) (v : Value) (h : VR β M a v) : VR β M (.ifc t a) (.iface t v)
  | nili : VR β M .nili .nilIface
  | agg (a : List AV) (vs : List Value) (h : VRs β M a vs) : VR β M (.agg a) (.agg vs.toArray)
  | tup (a : List AV) (vs : List Value) (h : VRs β M a vs) : VR β M (.tup a) (.tuple vs.toArray)
inductive VRs (β : Bt) (M : Mem) : List AV → List Value → Prop where
  | nil : VRs β M [] []
  | cons (a : AV) (v : Value) (r : List AV) (s : List Value) (h : VR β M a v) (k : VRs β M r s) : VRs β M (a :: r) (v :: s)
end

section
variable {β β' : Bt} {M : Mem}
mutual
theorem LocR.mono (hb : β.le β') {l : Loc} {c o : Nat} (h : LocR β M l c o) : LocR β' M l c o := by
  cases h with
  | mt b p h => exact .mt b p (hb _ _ h)
  | im cells vs c o h hm => exact .im cells vs _ _ (VRs.mono hb h) hm
theorem VR.mono (hb : β.le β') {a : AV} {v : Value} (h : VR β M a v) : VR β' M a v := by
  cases h with
  | bool b => exact .bool b
  | int k n => exact .int k n
  | str s => exact .str s
  | nilp => exact .nilp
  | ptr l off c o h => exact .ptr l off c o (LocR.mono hb h)
  | nils => exact .nils
  | sl l off len cap cap' c o h hc => exact .sl l off len cap cap' c o (LocR.mono hb h) (hc.mono hb)
  | sl0 l off cap c o a h hc => exact .sl0 l off cap c o a (LocR.mono hb h) (hc.mono hb)
  | nilm => exact .nilm
  | map b p h => exact .map b p (hb _ _ h)
  | fn f a b vs ws h k => exact .fn f a b vs ws (VRs.mono hb h) (VRs.mono hb k)
  | nilf => exact .nilf
  | ifc t a v h => exact .ifc t a v (VR.mono hb h)
  | nili => exact .nili
  | agg a vs h => exact .agg a vs (VRs.mono hb h)
  | tup a vs h => exact .tup a vs (VRs.mono hb h)
theorem VRs.mono (hb : β.le β') {a : List AV} {v : List Value} (h : VRs β M a v) : VRs β' M a v := by
  cases h with
  | nil => exact .nil
  | cons a v r s h k => exact .cons a v r s (VR.mono hb h) (VRs.mono hb k)
end

theorem VRs.length {a : List AV} {v : List Value} (h : VRs β M a v) : a.length = v.length := by
  induction a generalizing v with
  | nil => cases h; rfl
  | cons x r ih => cases h with | cons _ _ _ _ h k => simp [ih k]
theorem VRs.get {a : List AV} {v : List Value} (h : VRs β M a v) {i : Nat} {x : AV} (e : a[i]? = some x) : ∃ y, v[i]? = some y ∧ VR β M x y := by
  induction a generalizing v i with
  | nil => simp at e
  | cons z r ih =>
    cases h with
    | cons _ w _ s h k =>
      cases i with
      | zero => simp only [List.getElem?_cons_zero, Option.some.injEq] at e ⊢; subst e; exact ⟨w, rfl, h⟩
      | succ i => simp only [List.getElem?_cons_succ] at e ⊢; exact ih k e
theorem VRs.get' {a : List AV} {v : List Value} (h : VRs β M a v) {i : Nat} {y : Value} (e : v[i]? = some y) : ∃ x, a[i]? = some x ∧ VR β M x y := by
  have hl := h.length
  have hi : i < v.length := (List.getElem?_eq_some_iff.1 e).1
  obtain ⟨z, hz, hr⟩ := h.get (i := i) (x := a[i]) (by simp [hl, hi])
  rw [e] at hz; cases hz
  exact ⟨a[i], by simp [hl, hi], hr⟩
theorem VRs.of_get {a : List AV} {v : List Value} (hl : a.length = v.length) (h : ∀ (i : Nat) (x : AV) (y : Value), a[i]? = some x → v[i]? = some y → VR β M x y) : VRs β M a v := by
  induction a generalizing v with
  | nil => cases v with
    | nil => exact .nil
    | cons _ _ => simp at hl
  | cons x r ih => cases v with
    | nil => simp at hl
    | cons y s => exact .cons _ _ _ _ (h 0 x y rfl rfl) (ih (by simpa using hl) fun i p q e f => h (i + 1) p q (by simpa using e) (by simpa using f))
theorem VRs.append {a b : List AV} {v w : List Value} (h : VRs β M a v) (k : VRs β M b w) : VRs β M (a ++ b) (v ++ w) := by
  induction a generalizing v with
  | nil => cases h; exact k
  | cons x r ih => cases h with | cons _ y _ s h1 h2 => exact .cons _ _ _ _ h1 (ih h2)
theorem VRs.take {a : List AV} {v : List Value} (h : VRs β M a v) (n : Nat) : VRs β M (a.take n) (v.take n) := by
  induction a generalizing v n with
  | nil => cases h; simp; exact .nil
  | cons x r ih => cases h with
    | cons _ y _ s h1 h2 => cases n with
      | zero => exact .nil
      | succ n => exact .cons _ _ _ _ h1 (ih h2 n)
theorem VRs.drop {a : List AV} {v : List Value} (h : VRs β M a v) (n : Nat) : VRs β M (a.drop n) (v.drop n) := by
  induction a generalizing v n with
  | nil => cases h; simp; exact .nil
  | cons x r ih => cases h with
    | cons _ y _ s h1 h2 => cases n with
      | zero => exact .cons _ _ _ _ h1 h2
      | succ n => exact ih h2 n
theorem VRs.one {x : AV} {y : Value} (h : VR β M x y) : VRs β M [x] [y] := .cons _ _ _ _ h .nil
theorem VRs.reps {a : List AV} {v : List Value} (h : VRs β M a v) (n : Nat) : VRs β M (VI.reps n a) (List.replicate n v).flatten := by
  induction n with
  | zero => exact .nil
  | succ n ih => simp only [VI.reps, List.replicate_succ, List.flatten_cons] at *; exact h.append ih
theorem VRs.splice {a b : List AV} {v w : List Value} (h : VRs β M a v) (k : VRs β M b w) (off : Nat) : VRs β M (VI.splice a off b) (v.take off ++ w ++ v.drop (off + w.length)) := by
  unfold VI.splice
  rw [k.length]
  exact ((h.take off).append k).append (h.drop _)

/-- a value's cells -/
theorem VR.cells {a : AV} {v : Value} (h : VR β M a v) : VRs β M a.cells v.cells.toList := by
  cases h with
  | agg a vs h => simpa [AV.cells, Value.cells] using h
  | _ => exact .one (by constructor <;> assumption)

theorem ofCell_sound {v : Value} {a : AV} (h : ofCell v = some a) : VR β M a v := by
  unfold ofCell at h
  split at h <;> first | (injection h with h; subst h; constructor) | (cases h)
theorem ofCells_sound : ∀ {l : List Value} {a : List AV}, ofCells l = some a → VRs β M a l
  | [], a, h => by simp only [ofCells, Option.some.injEq] at h; subst h; exact .nil
  | v :: r, a, h => by
    simp only [ofCells] at h
    split at h
    · rename_i x y h1 h2
      injection h with h; subst h
      exact .cons _ _ _ _ (ofCell_sound h1) (ofCells_sound h2)
    · cases h
theorem ofValue_sound {v : Value} {a : AV} (h : ofValue v = some a) : VR β M a v := by
  unfold ofValue at h
  split at h
  · rename_i cs
    obtain ⟨l, h1, rfl⟩ := Option.map_eq_some_iff.1 h
    have := VR.agg (β := β) (M := M) _ _ (ofCells_sound h1)
    simpa using this
  · rename_i cs
    obtain ⟨l, h1, rfl⟩ := Option.map_eq_some_iff.1 h
    have := VR.tup (β := β) (M := M) _ _ (ofCells_sound h1)
    simpa using this
  · rename_i f x y
    split at h
    · rename_i hz
      injection h with h; subst h
      have e1 : x = #[] := Array.eq_empty_of_size_eq_zero hz.1
      have e2 : y = #[] := Array.eq_empty_of_size_eq_zero hz.2
      subst e1; subst e2
      exact .fn f [] [] [] [] .nil .nil
    · cases h
  · exact ofCell_sound h
end

/-! ### The world -/
def memOf (w0 : World) : Mem := fun c i => if c < w0.heap.size then w0.cell? ⟨c, i, none⟩ else none

def Ents (β : Bt) (M : Mem) : List (AV × AV) → List MapEntry → Prop
  | [], [] => True
  | (k, v) :: r, e :: s => VR β M k e.key ∧ VR β M v e.val ∧ Ents β M r s
  | _, _ => False
theorem Ents.mono {β β' : Bt} {M : Mem} (hb : β.le β') : ∀ {l : List (AV × AV)} {es : List MapEntry}, Ents β M l es → Ents β' M l es
  | [], [], _ => trivial
  | (_, _) :: _, _ :: _, h => ⟨h.1.mono hb, h.2.1.mono hb, Ents.mono hb h.2.2⟩
  | [], _ :: _, h => h.elim
  | _ :: _, [], h => h.elim

def fzOk (cc : Array Value) (fz : Nat × Nat) : Prop := fz.1 = fz.2 ∨ cc.size ≤ fz.1

def ObjR (P : Program) (β : Bt) (M : Mem) (w : World) (p : Pl) : AObj → Prop
  | .row cells elem opn _ => p.n = cells.length ∧ (opn = false → p.r = p.n) ∧ (opn = true → csz P elem = some p.e) ∧
      ∃ cc el fz, w.heap[p.c]? = some (.cells cc el fz) ∧ fzOk cc fz ∧ p.o + p.r ≤ cc.size ∧
        ∃ vs, VRs β M cells vs ∧ ∀ i v, vs[i]? = some v → cc[p.o + i]? = some v
  | .map es => ∃ ces clock, w.heap[p.c]? = some (.map ces clock) ∧ Ents β M es ces.toList
  | .siter s pos => ∃ b, w.heap[p.c]? = some (.stringIter b pos) ∧ b.data.toList = s
  | .dead => True

def isRowFam : AObj → Option (Nat × Nat)
  | .row _ _ _ fam => fam
  | _ => none
/-- Two blocks in one place are of one family, and lie alike. -/
def Kin (x : AObj) (p : Pl) (x' : AObj) (p' : Pl) : Prop :=
  ∃ f q q', isRowFam x = some (f, q) ∧ isRowFam x' = some (f, q') ∧ p.o + q' = p'.o + q

structure Rel (P : Program) (w0 : World) (β : Bt) (H : AH) (w : World) : Prop where
  below : Below w0.heap.size w0 w
  dom : ∀ b p, β b = some p → b < H.n ∧ w0.heap.size ≤ p.c ∧ p.c < w.heap.size ∧ p.n ≤ p.r ∧ 1 ≤ p.e
  obj : ∀ b p x, β b = some p → H.at b = some x → ObjR P β (memOf w0) w p x
  apart : ∀ b b' p p' x x', β b = some p → β b' = some p' → H.at b = some x → H.at b' = some x' → b ≠ b' → p.c = p'.c → Kin x p x' p'
  tip : ∀ f t b q cells el op, H.f.get f = some (none, t) → H.o.get b = some (.row cells el op (some (f, q))) →
    ∃ q' cells' el' op', H.o.get t = some (.row cells' el' op' (some (f, q'))) ∧ q + cells.length ≤ q' + cells'.length
  wf : ∀ b, H.n ≤ b → H.o.get b = none
  wff : ∀ f, H.n ≤ f → H.f.get f = none
  unm : ∀ b x, H.o.get b = some x → β b = none → isRowFam x = none
  fam : ∀ b x f q, H.o.get b = some x → isRowFam x = some (f, q) → f < H.n

end Go.VI
