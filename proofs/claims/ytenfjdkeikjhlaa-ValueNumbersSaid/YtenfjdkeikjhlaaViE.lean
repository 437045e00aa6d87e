/-
  What the abstract machine looks up, the model looks up: the operations.
-/
import Derived.Test.YtenfjdkeikjhlaaViD
set_option autoImplicit false
set_option linter.unusedVariables false
namespace Go.VI
open Go.RowKit

section
variable {P : Program} {w w0 : World} {β : Bt} {H : AH} {nt : Nat} {e : Env} {a : Act} {M : Mem}

theorem strLess_eq : ∀ a b : List UInt8, strLess a b = Op.bytesLess a b
  | [], [] => rfl
  | [], _ :: _ => rfl
  | _ :: _, [] => rfl
  | a :: x, b :: y => by simp only [strLess, Op.bytesLess, strLess_eq x y]
theorem strOp_sound {op : BinOp} {x y : ByteArray} {v : AV} (h : strOp op x.data.toList y.data.toList = some v) (w : World) : Gives P w β M (Op.stringOp op x y) v := by
  unfold strOp at h
  split at h
  · split at h
    · rename_i hl
      injection h with h; subst h
      have h1 : x.data.toList ++ y.data.toList = (x ++ y).data.toList := by simp
      rw [h1]
      refine ⟨.string (x ++ y), ?_, .str _⟩
      have : ¬ (((x.size + y.size : Nat) : Int) > IntKind.i64.max) := by
        have e1 : x.size = x.data.toList.length := by simp
        have e2 : y.size = y.data.toList.length := by simp
        rw [e1, e2]
        have : IntKind.i64.max = 9223372036854775807 := by decide
        omega
      simp only [Op.stringOp, this, if_false, Sem.run_pure]
    · cases h
  all_goals first
    | (injection h with h; subst h; refine ⟨_, rfl, ?_⟩; simp only [ByteArray.toList_eq, eqS_eq, strLess_eq, beq_dec]; constructor)
    | cases h
theorem bitsOp_sound {op : BinOp} {k : IntKind} {x y : Int} {v : AV} (h : bitsOp op k x y = some v) (w : World) : Gives P w β M (Op.intBits op k x y) v := by
  unfold bitsOp at h
  split at h <;> first | (injection h with h; subst h; exact ⟨_, rfl, .int _ _⟩) | cases h
theorem gives_bool (b : Bool) {s : Sem Value} (h : s.run P w = .ok (.bool b) w) : Gives P w β M s (.bool b) := ⟨_, h, .bool _⟩
theorem intOp_sound {op : BinOp} {t : TypeId} {k : IntKind} {x y : Int} {v : AV} (h : intOp op k x y = some v) (w : World) : Gives P w β M (binOp op t (.int k x) (.int k y)) v := by
  cases op <;> simp only [intOp] at h
  case add => injection h with h; subst h; rw [wrapA_eq]; exact ⟨_, by simp [binOp, Op.intArith], .int _ _⟩
  case sub => injection h with h; subst h; rw [wrapA_eq]; exact ⟨_, by simp [binOp, Op.intArith], .int _ _⟩
  case mul => injection h with h; subst h; rw [wrapA_eq]; exact ⟨_, by simp [binOp, Op.intArith], .int _ _⟩
  case quo =>
    split at h
    · cases h
    · rename_i hz
      rw [eqI_eq, decide_eq_false_iff_not] at hz
      injection h with h; subst h; rw [wrapA_eq]; exact ⟨_, by simp [binOp, Op.intDiv, hz], .int _ _⟩
  case rem =>
    split at h
    · cases h
    · rename_i hz
      rw [eqI_eq, decide_eq_false_iff_not] at hz
      injection h with h; subst h; exact ⟨_, by simp [binOp, Op.intDiv, hz], .int _ _⟩
  case and => obtain ⟨v', h1, h2⟩ := bitsOp_sound (P := P) (β := β) (M := M) h w; exact ⟨v', by simpa [binOp] using h1, h2⟩
  case or => obtain ⟨v', h1, h2⟩ := bitsOp_sound (P := P) (β := β) (M := M) h w; exact ⟨v', by simpa [binOp] using h1, h2⟩
  case xor => obtain ⟨v', h1, h2⟩ := bitsOp_sound (P := P) (β := β) (M := M) h w; exact ⟨v', by simpa [binOp] using h1, h2⟩
  case andNot => obtain ⟨v', h1, h2⟩ := bitsOp_sound (P := P) (β := β) (M := M) h w; exact ⟨v', by simpa [binOp] using h1, h2⟩
  case shl => cases h
  case shr => cases h
  case eql => injection h with h; subst h; rw [eqI_eq, ← beq_dec]; exact gives_bool _ (by simp [binOp, Op.intCmp])
  case neq => injection h with h; subst h; rw [eqI_eq, ← beq_dec]; exact gives_bool _ (by simp [binOp, Op.intCmp, bne])
  case lss => injection h with h; subst h; rw [ltI_eq]; exact gives_bool _ (by simp [binOp, Op.intCmp])
  case leq => injection h with h; subst h; rw [ltI_eq]; exact gives_bool _ (by simp [binOp, Op.intCmp]; by_cases c : x ≤ y <;> simp [c] <;> omega)
  case gtr => injection h with h; subst h; rw [ltI_eq]; exact gives_bool _ (by simp [binOp, Op.intCmp])
  case geq => injection h with h; subst h; rw [ltI_eq]; exact gives_bool _ (by simp [binOp, Op.intCmp]; by_cases c : y ≤ x <;> simp [c] <;> omega)
theorem shiftOp_sound {op : BinOp} {t : TypeId} {k j : IntKind} {x y : Int} {v : AV} (ho : op = .shl ∨ op = .shr) (h : shiftOp op k x y = some v) (w : World) : Gives P w β M (binOp op t (.int k x) (.int j y)) v := by
  unfold shiftOp at h
  split at h
  · cases h
  · rename_i hy
    rcases ho with rfl | rfl
    · injection h with h; subst h; exact ⟨_, by simp [binOp, Op.shift, hy], .int _ _⟩
    · injection h with h; subst h; exact ⟨_, by simp [binOp, Op.shift, hy], .int _ _⟩
theorem eqGuard_sound {op : BinOp} {t : TypeId} {x y : AV} {ox oy : Operand} {vx vy : Value} (h : eqOk P t x y (isConstO ox) (isConstO oy) = true) (hx : VR β M x vx) (hy : VR β M y vy) (w : World) :
    (eqGuard op t ox oy vx vy).run P w = .ok () w := by
  cases op <;> first
    | rfl
    | (unfold eqOk at h
       split at h
       · cases hx; cases hy
         cases ox <;> cases oy <;> first | rfl | (simp [isConstO] at h)
       · cases hx; cases hy
         simp only [Bool.not_eq_true'] at h
         simp [eqGuard, h]
       · rename_i h1 h2
         cases hx <;> cases hy <;> first | rfl | exact absurd rfl (h1 rfl) | exact (h1 rfl rfl).elim | exact (h2 _ _ rfl rfl).elim)
theorem guard_idle {op : BinOp} (h : op ≠ .eql) (h' : op ≠ .neq) (t : TypeId) (ox oy : Operand) (vx vy : Value) (w : World) : (eqGuard op t ox oy vx vy).run P w = .ok () w := by
  cases op <;> first | rfl | exact absurd rfl h | exact absurd rfl h'
theorem bin_eq_run {t : TypeId} {x y : AV} {vx vy : Value} {r : Bool} (hx : VR β M x vx) (hy : VR β M y vy) (h : eqA P 10000 t x y = some r)
    (h1 : ∀ k a k' b, ¬ (x = .int k a ∧ y = .int k' b)) (h2 : ∀ a b, ¬ (x = .str a ∧ y = .str b)) (w : World) :
    (binOp .eql t vx vy).run P w = .ok (.bool r) w ∧ (binOp .neq t vx vy).run P w = .ok (.bool !r) w := by
  have e := eqA_sound (w := w) 10000 h hx hy
  have e' : (Op.equal t vx vy).run P w = .ok r w := e
  cases hx <;> cases hy <;> first
    | exact absurd ⟨rfl, rfl⟩ (h1 _ _ _ _)
    | exact absurd ⟨rfl, rfl⟩ (h2 _ _)
    | (constructor <;> (unfold binOp; simp only [Sem.run_bind, e', Result.andThen_ok, Sem.run_pure]))
set_option maxHeartbeats 1000000 in
theorem binA_sound {op : BinOp} {t : TypeId} {x y : AV} {ox oy : Operand} {vx vy : Value} {v : AV} (h : binA P op t x y (isConstO ox) (isConstO oy) = some v) (hx : VR β M x vx) (hy : VR β M y vy) (w : World) :
    Gives P w β M (do eqGuard op t ox oy vx vy; binOp op t vx vy) v := by
  unfold binA at h
  split at h
  · cases hx; cases hy
    obtain ⟨v', h1, h2⟩ := shiftOp_sound (P := P) (β := β) (M := M) (t := t) (.inl rfl) h w
    exact ⟨v', by simp only [Sem.run_bind, guard_idle (P := P) (op := .shl) (by simp) (by simp), Result.andThen_ok]; exact h1, h2⟩
  · cases hx; cases hy
    obtain ⟨v', h1, h2⟩ := shiftOp_sound (P := P) (β := β) (M := M) (t := t) (.inr rfl) h w
    exact ⟨v', by simp only [Sem.run_bind, guard_idle (P := P) (op := .shr) (by simp) (by simp), Result.andThen_ok]; exact h1, h2⟩
  · cases hx; cases hy
    split at h
    · rename_i hk; subst hk
      obtain ⟨v', h1, h2⟩ := intOp_sound (P := P) (β := β) (M := M) (t := t) h w
      have hg : ∀ k k' a b, (eqGuard op t ox oy (.int k a) (.int k' b)).run P w = .ok () w := fun k k' a b => by unfold eqGuard; split <;> rfl
      exact ⟨v', by simp only [Sem.run_bind, hg, Result.andThen_ok]; exact h1, h2⟩
    · cases h
  · cases hx; cases hy
    obtain ⟨v', h1, h2⟩ := strOp_sound (P := P) (β := β) (M := M) h w
    have hg : ∀ a b, (eqGuard op t ox oy (.string a) (.string b)).run P w = .ok () w := fun a b => by unfold eqGuard; split <;> rfl
    refine ⟨v', ?_, h2⟩
    simp only [Sem.run_bind, hg, Result.andThen_ok]
    cases op <;> first | exact h1 | (simp [strOp] at h)
  · rename_i h1 h2
    split at h
    · rename_i hok
      obtain ⟨r, hr, rfl⟩ := Option.map_eq_some_iff.1 h
      have := bin_eq_run (w := w) hx hy hr (fun k a k' b ⟨e1, e2⟩ => h1 _ _ _ _ e1 e2) (fun a b ⟨e1, e2⟩ => h2 _ _ e1 e2)
      exact ⟨_, by simp only [Sem.run_bind, eqGuard_sound hok hx hy, Result.andThen_ok]; exact this.1, .bool _⟩
    · cases h
  · rename_i h1 h2
    split at h
    · rename_i hok
      obtain ⟨r, hr, rfl⟩ := Option.map_eq_some_iff.1 h
      have := bin_eq_run (w := w) hx hy hr (fun k a k' b ⟨e1, e2⟩ => h1 _ _ _ _ e1 e2) (fun a b ⟨e1, e2⟩ => h2 _ _ e1 e2)
      exact ⟨_, by simp only [Sem.run_bind, eqGuard_sound hok hx hy, Result.andThen_ok]; exact this.2, .bool _⟩
    · cases h
  · cases h
end
end Go.VI
