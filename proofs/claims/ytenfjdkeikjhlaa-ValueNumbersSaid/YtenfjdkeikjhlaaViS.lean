/-
  Regions in the order of the text; code; calls.
-/
import Derived.Test.YtenfjdkeikjhlaaViR
import Derived.Defers
set_option autoImplicit false
set_option linter.unusedVariables false
namespace Go.VI
open Go.RowKit

section
variable {P : Program} {w w' w0 : World} {β β' : Bt} {H H' : AH} {nt : Nat} {e : Env} {a : Act} {M : Mem}

def DefsR (β : Bt) (M : Mem) : List ADef → List Deferred → Prop
  | [], [] => True
  | x :: r, y :: s => DefR β M x y ∧ DefsR β M r s
  | _, _ => False
theorem DefR.mono (hb : β.le β') {x : ADef} {y : Deferred} (h : DefR β M x y) : DefR β' M x y := by
  cases x with
  | fn f cap args => obtain ⟨vs, ws, h1, h2, h3⟩ := h; exact ⟨vs, ws, h1, h2.mono hb, h3.mono hb⟩
  | del _ _ _ => exact h.elim
theorem DefsR.mono (hb : β.le β') : ∀ {l : List ADef} {m : List Deferred}, DefsR β M l m → DefsR β' M l m
  | [], [], _ => trivial
  | _ :: _, _ :: _, h => ⟨h.1.mono hb, DefsR.mono hb h.2⟩
  | [], _ :: _, h => h.elim
  | _ :: _, [], h => h.elim

/-- The state of the abstract machine and the model's. -/
structure SRel (P : Program) (w0 : World) (β : Bt) (nt : Nat) (s : St) (a : Act) (w : World) : Prop where
  e : ERel β (memOf w0) nt s.e a
  h : Rel P w0 β s.h w
  d : DefsR β (memOf w0) s.d a.defers

theorem val_set (e : Env) (d t : Nat) (v : AV) : Env.val (e.set d v) t = if t = d then v else e.val t := by
  unfold Env.val; rw [Tr.get_set]; split <;> rfl
theorem put_rel {dst : Option Nat} {v : AV} {v' : Value} {e' : Env} (E : ERel β M nt e a) (h : putE nt e dst v = some e') (hv : VR β M v v') : ERel β M nt e' (a.put dst v') ∧ (a.put dst v').defers = a.defers := by
  cases dst with
  | none => simp only [putE, Option.some.injEq] at h; subst h; exact ⟨E, rfl⟩
  | some d =>
    simp only [putE] at h
    split at h
    · rename_i hlt
      rw [blt_iff, decide_eq_true_iff] at hlt
      injection h with h; subst h
      have hsz := E.size
      refine ⟨⟨by simpa [Act.put] using hsz, fun t => ?_⟩, rfl⟩
      rw [val_set]
      simp only [Act.put]
      by_cases c : t = d
      · subst c; simp; rw [if_pos (by omega)]; exact hv
      · rw [if_neg c]
        have := E.val t
        simp only [Array.getD_eq_getD_getElem?, Array.getElem?_setIfInBounds, if_neg (Ne.symm c)] at this ⊢
        exact this
    · cases h
theorem wanted_sound {ops : Array Oper} {o : Oper} (E : ERel β M nt e a) : Region.wanted o (yielded ops a.tmps) = wantedA ops.toList e o := by
  unfold Region.wanted wantedA
  cases o.guard with
  | none => rfl
  | some g =>
    obtain ⟨j, want⟩ := g
    simp only [yielded]
    rw [← Array.getElem?_toList]
    cases hj : ops.toList[j]? with
    | none => simp
    | some p =>
      simp only [Option.bind_some]
      cases hd : p.dst with
      | none => simp
      | some d =>
        simp only [Option.bind_some]
        have hv := E.val d
        cases ht : a.tmps[d]? with
        | none =>
          have e1 : a.tmps.getD d undef = undef := by simp [Array.getD_eq_getD_getElem?, ht]
          rw [e1] at hv
          generalize e.val d = x at hv
          cases hv; rfl
        | some v =>
          have e1 : a.tmps.getD d undef = v := by simp [Array.getD_eq_getD_getElem?, ht]
          rw [e1] at hv
          generalize e.val d = x at hv
          cases hv <;> first | rfl | (simp [undef]; done) | (simp; done)

def RegPost (P : Program) (w0 : World) (β : Bt) (nt : Nat) (H : AH) (K : Act → World → Prop) (Q : Exit → Act → World → Prop) : ORes → Prop
  | .ok s => ∀ a' w' β', SRel P w0 β' nt s a' w' → Moves P w0 β β' H s.h w' → K a' w'
  | .pan v s => ∀ a' w' β' v', SRel P w0 β' nt s a' w' → Moves P w0 β β' H s.h w' → VR β' (memOf w0) v v' → Q (.panic [{ v := v', recovered := false }]) a' w'

theorem Moves.trans {H1 H2 H3 : AH} {β1 β2 β3 : Bt} {w2 w3 : World} (h : Moves P w0 β1 β2 H1 H2 w2) (k : Moves P w0 β2 β3 H2 H3 w3) : Moves P w0 β1 β3 H1 H3 w3 :=
  ⟨Bt.le_trans h.le k.le, k.rel, Nat.le_trans h.n k.n, fun b hb hn => by
    obtain ⟨h1, h2⟩ := h.unm b hb hn
    obtain ⟨h3, h4⟩ := k.unm b (Nat.lt_of_lt_of_le hb h.n) h1
    exact ⟨h3, h4.trans h2⟩⟩

theorem aops_sound {call : CallF} (C : CallSound P w0 call) {ops : Array Oper} {Q : Exit → Act → World → Prop} : ∀ (k : Nat) (l : List Oper) (s : St) (r : ORes) (β : Bt) (a : Act) (w : World), (∀ j, l[j]? = ops.toList[k + j]?) →
    aops P nt call ops.toList l s = some r → SRel P w0 β nt s a w → RegPost P w0 β nt s.h (Q .normal) Q r → wpOps P ops Q ((List.range l.length).map (k + ·)) a w := by
  intro k l
  induction l generalizing k with
  | nil =>
    intro s r β a w hl h S K
    simp only [aops, Option.some.injEq] at h; subst h
    exact K a w β S (.refl S.h)
  | cons o l ih =>
    intro s r β a w hl h S K
    have ho : ops[k]? = some o := by have := hl 0; simp at this; rw [← this]
    have hl' : ∀ j, l[j]? = ops.toList[k + 1 + j]? := fun j => by have := hl (j + 1); simp only [List.getElem?_cons_succ] at this; rw [this]; congr 1; omega
    have hr : (List.range (o :: l).length).map (k + ·) = k :: (List.range l.length).map (k + 1 + ·) := by
      simp only [List.length_cons, List.range_succ_eq_map, List.map_cons, Nat.add_zero, List.map_map]
      congr 1
      apply List.map_congr_left; intro x _; simp; omega
    rw [hr]
    simp only [wpOps, ho]
    simp only [aops] at h
    have hw := wanted_sound (ops := ops) (o := o) S.e
    split at h
    · rename_i hwa
      rw [hw, if_pos hwa]
      left
      split at h
      · rename_i v H' hop
        split at h
        · rename_i e' he
          refine opA_sound C S.h S.e hop fun v' w' β' hm hv => ?_
          obtain ⟨hE, hd⟩ := put_rel (ev_mono S.e hm.le) he hv
          have S' : SRel P w0 β' nt ⟨e', H', s.d⟩ (a.put o.dst v') w' := ⟨hE, hm.rel, by rw [hd]; exact S.d.mono hm.le⟩
          refine ih (k + 1) _ r β' _ _ hl' h S' ?_
          cases r with
          | ok s' => exact fun a' w'' β'' S'' hm' => K a' w'' β'' S'' (hm.trans hm')
          | pan v s' => exact fun a' w'' β'' v'' S'' hm' hv' => K a' w'' β'' v'' S'' (hm.trans hm') hv'
        · cases h
      · rename_i v H' hop
        injection h with h; subst h
        refine opA_sound C S.h S.e hop fun v' w' β' hm hv => ?_
        exact K a w' β' v' ⟨ev_mono S.e hm.le, hm.rel, S.d.mono hm.le⟩ hm hv
      · rename_i d hop
        split at h
        · rename_i e' he
          refine opA_sound C S.h S.e hop fun d' w' hww hd => ?_
          subst hww
          have hE0 : ERel β (memOf w0) nt s.e { a with defers := d' :: a.defers } := ⟨S.e.size, S.e.val⟩
          obtain ⟨hE, hdd⟩ := put_rel hE0 he undef_sound
          have S' : SRel P w0 β nt ⟨e', s.h, d :: s.d⟩ (({ a with defers := d' :: a.defers } : Act).put o.dst undef) w' := ⟨hE, S.h, by rw [hdd]; exact ⟨hd, S.d⟩⟩
          refine ih (k + 1) _ r β _ _ hl' h S' ?_
          cases r with
          | ok s' => exact K
          | pan v s' => exact K
        · cases h
      · cases h
    · rename_i hwa
      rw [hw, if_neg hwa]
      split at h
      · rename_i e' he
        obtain ⟨hE, hd⟩ := put_rel S.e he undef_sound
        refine ih (k + 1) _ r β _ _ hl' h ⟨hE, S.h, by rw [hd]; exact S.d⟩ ?_
        cases r with
        | ok s' => exact K
        | pan v s' => exact K
      · cases h
end
end Go.VI
