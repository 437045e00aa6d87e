/-
  Answers that are kept in tables: a call that answers without a place in its hands leaves the world as it was, but for new blocks.
-/
import Derived.Test.YtenfjdkeikjhlaaViU
set_option autoImplicit false
set_option linter.unusedVariables false
namespace Go.VI
open Go.RowKit

section
variable {P : Program} {w w' w0 : World} {β β' : Bt} {H H' : AH} {M M' : Mem}

mutual
theorem flat_vr (a : AV) (v : Value) (h : a.flat = true) (k : VR β M a v) : VR β' M' a v := by
  cases k <;> simp only [AV.flat, Bool.false_eq_true, Bool.and_eq_true] at h <;> first
    | (constructor; done)
    | (constructor; assumption)
    | skip
  case fn f a b vs ws h1 h2 => exact .fn _ _ _ _ _ (flats_vr _ _ h.1 h1) (flats_vr _ _ h.2 h2)
  case ifc t a v h1 => exact .ifc _ _ _ (flat_vr _ _ h h1)
  case agg vs ws h1 => exact .agg _ _ (flats_vr _ _ h h1)
  case tup vs ws h1 => exact .tup _ _ (flats_vr _ _ h h1)
  termination_by SizeOf.sizeOf a
theorem flats_vr (a : List AV) (v : List Value) (h : AV.flats a = true) (k : VRs β M a v) : VRs β' M' a v := by
  cases k with
  | nil => exact .nil
  | cons x y r s h1 h2 =>
    simp only [AV.flats, Bool.and_eq_true] at h
    exact .cons _ _ _ _ (flat_vr _ _ h.1 h1) (flats_vr _ _ h.2 h2)
  termination_by SizeOf.sizeOf a
end

/-- What is new is not seen. -/
theorem Rel.frame (R : Rel P w0 β H w) (h : Below w.heap.size w w') : Rel P w0 β H w' := by
  have hk : ∀ b p, β b = some p → w'.heap[p.c]? = w.heap[p.c]? := fun b p hb => h.block p.c (R.dom b p hb).2.2.1
  exact {
    below := R.below.trans (h.mono R.below.size)
    dom := fun b p hb => by
      obtain ⟨h1, h2, h3, h4⟩ := R.dom b p hb
      exact ⟨h1, h2, Nat.lt_of_lt_of_le h3 h.size, h4⟩
    obj := fun b p x hb hx => (R.obj b p x hb hx).keep (Bt.le_refl β) (hk b p hb)
    apart := R.apart, tip := R.tip, wf := R.wf, wff := R.wff, unm := R.unm, fam := R.fam }
theorem Rel.empty (w : World) : Rel P w (fun _ => none) AH.empty w where
  below := Below.refl _ _
  dom := fun _ _ h => by cases h
  obj := fun _ _ _ h => by cases h
  apart := fun _ _ _ _ _ _ h => by cases h
  tip := fun _ _ _ _ _ _ _ h => by simp [AH.empty, Tr.get_lf] at h
  wf := fun _ _ => by simp [AH.empty, Tr.get_lf]
  wff := fun _ _ => by simp [AH.empty, Tr.get_lf]
  unm := fun _ _ h => by simp [AH.empty, Tr.get_lf] at h
  fam := fun _ _ _ _ h => by simp [AH.empty, Tr.get_lf] at h

def RowOk (P : Program) (r : Row) : Prop := Enters P r.f ∧ ∀ w vs, VRs (fun _ => none) (memOf w) r.args vs →
  Calls P r.f vs.toArray w fun e w' => Below w.heap.size w w' ∧ ∃ v', e = .returned v' ∧ VR (fun _ => none) (memOf w) r.v v'
def TableOk (P : Program) (t : List Row) : Prop := ∀ r ∈ t, r.flat = true ∧ RowOk P r
theorem lookT_mem {f : Nat} {args : List AV} {v : AV} : ∀ {t : List Row}, lookT f args t = some v → (⟨f, args, v⟩ : Row) ∈ t
  | r :: t, h => by
    simp only [lookT] at h
    split at h
    · rename_i hc
      injection h with h
      rw [Bool.and_eq_true, Nat.beq_eq] at hc
      have h2 := AV.beqs_eq _ _ hc.2
      have : (⟨f, args, v⟩ : Row) = r := by rw [← h, ← hc.1, ← h2]
      rw [this]; exact List.mem_cons_self
    · exact List.mem_cons_of_mem _ (lookT_mem h)
theorem table_sound {t : List Row} (T : TableOk P t) : CallSound P w0 (table t) := by
  intro f args H r H' h
  unfold table at h
  split at h
  · rename_i v hv
    injection h with h; injection h with e1 e2; subst e1; subst e2
    obtain ⟨hf, he, hc⟩ := T _ (lookT_mem hv)
    simp only [Row.flat, Bool.and_eq_true] at hf
    refine ⟨he, fun β w vs R hvs => ?_⟩
    refine (hc w vs (flats_vr _ _ hf.1 hvs)).mono fun e w' ⟨hb, v', h1, h2⟩ => ?_
    exact ⟨β, ⟨Bt.le_refl β, R.frame hb, Nat.le_refl _, fun b _ hn => ⟨hn, rfl⟩⟩, v', h1, flat_vr _ _ hf.2 h2⟩
  · cases h
/-- A row is sound where the abstract machine says so. -/
theorem row_of (hm : P.follows .mixedOrders = true) (hn : NamesOk P) {orc : CallF} (O : ∀ w0, CallSound P w0 orc) {n : Nat} {r : Row} (h : gives r.v (acall P orc n r.f r.args AH.empty) = true) (hf : r.flat = true) : RowOk P r := by
  unfold gives at h
  split at h
  · rename_i u H' hc
    have hu := AV.beq_eq _ _ h
    subst hu
    simp only [Row.flat, Bool.and_eq_true] at hf
    refine ⟨(acall_sound (w0 := ⟨#[], default, 0, default, default⟩) hm hn (O _) n _ _ _ _ _ hc).1, fun w vs hv => ?_⟩
    refine ((acall_sound hm hn (O w) n _ _ _ _ _ hc).2 _ w vs (Rel.empty w) hv).mono fun e w' ⟨β', hmv, v', h1, h2⟩ => ?_
    exact ⟨hmv.rel.below, v', h1, flat_vr _ _ hf.2 h2⟩
  · cases h
theorem table_of (hm : P.follows .mixedOrders = true) (hn : NamesOk P) {orc : CallF} (O : ∀ w0, CallSound P w0 orc) {n : Nat} {t : List Row} (h : (t.all fun r => r.flat && gives r.v (acall P orc n r.f r.args AH.empty)) = true) : TableOk P t := by
  intro r hr
  have := List.all_eq_true.1 h r hr
  rw [Bool.and_eq_true] at this
  exact ⟨this.1, row_of hm hn O this.2 this.1⟩
theorem TableOk.append {s t : List Row} (h : TableOk P s) (k : TableOk P t) : TableOk P (s ++ t) := fun r hr => by
  rcases List.mem_append.1 hr with hr | hr
  · exact h r hr
  · exact k r hr
theorem TableOk.nil : TableOk P [] := fun _ h => by cases h

/-- A law without arguments. -/
theorem law0 (hm : P.follows .mixedOrders = true) (hn : NamesOk P) {t : List Row} (T : TableOk P t) {n f : Nat} (h : tells (acall P (table t) n f [] AH.empty) = true) (w : World) :
    Calls P f #[] w fun e w' => e = .returned (.bool true) ∧ Below w.heap.size w w' := by
  unfold tells at h
  split at h
  · rename_i b H' hc
    subst h
    refine ((acall_sound hm hn (table_sound T) n _ _ _ _ _ hc).2 _ w [] (Rel.empty w) .nil).mono fun e w' ⟨β', hmv, v', h1, h2⟩ => ?_
    cases h2
    exact ⟨h1, hmv.rel.below⟩
  · cases h
end
end Go.VI
