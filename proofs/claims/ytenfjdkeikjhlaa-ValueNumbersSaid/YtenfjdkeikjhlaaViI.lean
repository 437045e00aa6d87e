/-
  What the abstract machine looks up, the model looks up: all of it.
-/
import Derived.Test.YtenfjdkeikjhlaaViH
set_option autoImplicit false
set_option linter.unusedVariables false
namespace Go.VI
open Go.RowKit

section
variable {P : Program} {w w0 : World} {β : Bt} {H : AH} {nt : Nat} {e : Env} {a : Act} {M : Mem}

theorem map_arr {α γ : Type} (f : α → γ) (xs : Array α) : (xs.toList.map f).toArray = xs.map f := by apply Array.ext'; simp
theorem str_len {s : ByteArray} : s.data.toList.length = s.size := by simp
theorem len_sound (R : Rel P w0 β H w) {ts : List TypeId} {as : List Operand} {ty : TypeId} {v : AV} (E : ERel β (memOf w0) nt e a) (h : doLen P e H as ts = some v) :
    Gives P w β (memOf w0) (Builtin.len_ ts.toArray ty (as.map a.eval).toArray) v := by
  unfold doLen at h
  split at h
  · rename_i x as t ts
    split at h
    · rename_i d y hu hx
      have k1 := ev_sound E hx
      simp only [List.map_cons]
      generalize a.eval x = vx at *
      have hun : (Builtin.len_ (t :: ts).toArray ty (vx :: as.map a.eval).toArray) = (do
          match ← underlying t, vx with
          | .string, .string s => pure (goInt s.size)
          | .array n _, _ => pure (goInt n)
          | .pointer arr, _ =>
            let .array n _ ← underlying arr | stuck "len: pointer to array expected"
            pure (goInt n)
          | .slice _, .slice _ n _ => pure (goInt n)
          | .map _ _, .map none | .chan _ _, .chan none => pure (goInt 0)
          | .map _ _, .map (some r) =>
            let .map entries _ ← getObj r | stuck "len: map expected"
            pure (goInt entries.size)
          | .chan _ _, .chan (some r) =>
            let .chan _ buf _ _ _ timer ← getObj r | stuck "len: channel expected"
            pure (goInt (if timer then 0 else buf.size))
          | _, _ => stuck "len: string, array, pointer to array, slice, map or channel expected") := by
        simp [Builtin.len_]; rfl
      rw [hun]
      unfold lenBy at h
      split at h
      · rename_i s
        injection h with h; subst h
        generalize hq : AV.str s = q at k1
        cases k1 <;> cases hq
        rw [str_len]
        exact ⟨_, by simp only [Sem.run_bind, run_underlying hu, Result.andThen_ok, Sem.run_pure]; rfl, .int _ _⟩
      · injection h with h; subst h
        cases k1
        exact ⟨_, by simp only [Sem.run_bind, run_underlying hu, Result.andThen_ok, Sem.run_pure]; rfl, .int _ _⟩
      · injection h with h; subst h
        cases k1 <;> exact ⟨_, by simp only [Sem.run_bind, run_underlying hu, Result.andThen_ok, Sem.run_pure]; rfl, .int _ _⟩
      · injection h with h; subst h
        cases k1
        exact ⟨_, by simp only [Sem.run_bind, run_underlying hu, Result.andThen_ok, Sem.run_pure]; rfl, .int _ _⟩
      · rename_i b
        cases k1 with | map _ p hb =>
        split at h
        · rename_i es hat
          injection h with h; subst h
          obtain ⟨ces, clock, h1, h2⟩ := R.obj b p _ hb hat
          have hl : ∀ (l : List (AV × AV)) (c : List MapEntry), Ents β (memOf w0) l c → l.length = c.length := by
            intro l
            induction l with
            | nil => intro c h; cases c with | nil => rfl | cons _ _ => exact h.elim
            | cons x l ih => intro c h; cases c with | nil => exact h.elim | cons _ c => simp [ih c h.2.2]
          rw [hl _ _ h2]
          exact ⟨_, by simp only [Sem.run_bind, run_underlying hu, Result.andThen_ok, Sem.run_pure, run_getMap h1]; rfl, .int _ _⟩
        · cases h
      · cases h
    · cases h
  · cases h
theorem min_sound : ∀ {as : List AV} {vs : List Value} {k : IntKind} {n : Int} {v : AV}, minA k n as = some v → VRs β M as vs → ∀ w, ∃ v', (vs.foldlM Builtin.min2 (.int k n)).run P w = .ok v' w ∧ VR β M v v'
  | [], vs, k, n, v, h, hv, w => by simp only [minA, Option.some.injEq] at h; subst h; cases hv; exact ⟨_, rfl, .int _ _⟩
  | x :: as, vs, k, n, v, h, hv, w => by
    cases hv with | cons _ y _ s h1 h2 =>
    unfold minA at h
    split at h
    · cases ‹_ :: _ = []›
    · rename_i j b r heq
      injection heq with e1 e2; subst e1; subst e2
      cases h1
      obtain ⟨v', e1, e2⟩ := min_sound h h2 w
      refine ⟨v', ?_, e2⟩
      simp only [List.foldlM_cons, Builtin.min2, Sem.run_bind, Sem.run_pure, Result.andThen_ok]
      rw [ltI_eq] at e1
      by_cases c : b < n <;> simp only [c, if_true, if_false, decide_true, decide_false, Bool.false_eq_true] at e1 ⊢ <;> exact e1
    · cases h
theorem max_sound : ∀ {as : List AV} {vs : List Value} {k : IntKind} {n : Int} {v : AV}, maxA k n as = some v → VRs β M as vs → ∀ w, ∃ v', (vs.foldlM Builtin.max2 (.int k n)).run P w = .ok v' w ∧ VR β M v v'
  | [], vs, k, n, v, h, hv, w => by simp only [maxA, Option.some.injEq] at h; subst h; cases hv; exact ⟨_, rfl, .int _ _⟩
  | x :: as, vs, k, n, v, h, hv, w => by
    cases hv with | cons _ y _ s h1 h2 =>
    unfold maxA at h
    split at h
    · cases ‹_ :: _ = []›
    · rename_i j b r heq
      injection heq with e1 e2; subst e1; subst e2
      cases h1
      obtain ⟨v', e1, e2⟩ := max_sound h h2 w
      refine ⟨v', ?_, e2⟩
      simp only [List.foldlM_cons, Builtin.max2, Sem.run_bind, Sem.run_pure, Result.andThen_ok]
      rw [ltI_eq] at e1
      by_cases c : n < b
      · have c' : b > n := c
        simp only [c, if_true, decide_true] at e1 ⊢; exact e1
      · have c' : ¬ b > n := c
        simp only [c, if_false, decide_false, Bool.false_eq_true] at e1 ⊢; exact e1
    · cases h
theorem run_builtin {ρ : Operand → Value} {o : Oper} {c : Call} {b : Builtin} (ho : o.op = .call c) (hc : c.callee = .builtin b) (w : World) :
    (execOp ρ o).run P w = (builtin b c.argTypes o.type (c.args.map fun | .const _ => true | _ => false) (c.args.map ρ)).run P w := by
  simp only [execOp, ho, resolve, hc, Sem.run_bind, Sem.run_pure, Result.andThen_ok, invoke]
  rfl
theorem readCall_sound (R : Rel P w0 β H w) {o : Oper} {c : Call} {v : AV} (E : ERel β (memOf w0) nt e a) (ho : o.op = .call c) (h : readCall P e H c = some v) :
    ∃ v', (execOp a.eval o).run P w = .ok (.value v') w ∧ VR β (memOf w0) v v' := by
  unfold readCall at h
  split at h
  · rename_i b hc
    rw [run_builtin ho hc]
    unfold readBuiltin at h
    split at h
    · obtain ⟨v', e1, e2⟩ := len_sound (ty := o.type) R E h
      have e3 : (Builtin.len_ c.argTypes o.type (c.args.map a.eval)).run P w = .ok v' w := by rw [map_arr] at e1; simpa using e1
      exact ⟨v', by simp only [builtin, Sem.run_bind, e3, Result.andThen_ok, Sem.run_pure], e2⟩
    · unfold doMin at h
      split at h
      · rename_i k n r hx
        have k1 := evs_sound E hx
        cases hm : c.args.toList.map a.eval with
        | nil => rw [hm] at k1; cases k1
        | cons y s =>
          rw [hm] at k1
          cases k1 with | cons _ _ _ _ h1 h2 =>
          cases h1
          obtain ⟨v', e1, e2⟩ := min_sound h h2 w
          have e3 : (Builtin.min_ c.argTypes o.type (c.args.map a.eval)).run P w = .ok v' w := by
            simp only [Builtin.min_, Array.toList_map, hm]; exact e1
          exact ⟨v', by simp only [builtin, Sem.run_bind, e3, Result.andThen_ok, Sem.run_pure], e2⟩
      · cases h
    · unfold doMax at h
      split at h
      · rename_i k n r hx
        have k1 := evs_sound E hx
        cases hm : c.args.toList.map a.eval with
        | nil => rw [hm] at k1; cases k1
        | cons y s =>
          rw [hm] at k1
          cases k1 with | cons _ _ _ _ h1 h2 =>
          cases h1
          obtain ⟨v', e1, e2⟩ := max_sound h h2 w
          have e3 : (Builtin.max_ c.argTypes o.type (c.args.map a.eval)).run P w = .ok v' w := by
            simp only [Builtin.max_, Array.toList_map, hm]; exact e1
          exact ⟨v', by simp only [builtin, Sem.run_bind, e3, Result.andThen_ok, Sem.run_pure], e2⟩
      · cases h
    · cases h
  · cases h
theorem nil_sound (R : Rel P w0 β H w) {o : Oper} {x : Operand} {v : AV} (E : ERel β (memOf w0) nt e a) (ho : o.op = .nilCheck x) (h : doNil e x = some v) :
    ∃ v', (execOp a.eval o).run P w = .ok (.value v') w ∧ VR β (memOf w0) v v' := by
  unfold doNil at h
  split at h
  · rename_i l off hx
    injection h with h; subst h
    have k1 := ev_sound E hx
    generalize hv : a.eval x = vx at *
    cases k1 with | ptr _ _ c o' hl =>
    exact ⟨_, by simp only [execOp, ho, hv, Sem.run_pure], .ptr _ _ _ _ hl⟩
  · rename_i f q r hx
    injection h with h; subst h
    have k1 := ev_sound E hx
    generalize hv : a.eval x = vx at *
    cases k1 with | fn _ _ _ vs ws h1 h2 =>
    exact ⟨_, by simp only [execOp, ho, hv, Sem.run_pure], .fn _ _ _ _ _ h1 h2⟩
  · rename_i t y hx
    injection h with h; subst h
    have k1 := ev_sound E hx
    generalize hv : a.eval x = vx at *
    cases k1 with | ifc _ _ vy h1 =>
    exact ⟨_, by simp only [execOp, ho, hv, Sem.run_pure], .ifc _ _ _ h1⟩
  · cases h

/-- The main theorem on looks. -/
theorem readOp_sound (R : Rel P w0 β H w) {o : Oper} {v : AV} (E : ERel β (memOf w0) nt e a) (h : readOp P e H o.op = some v) :
    ∃ v', (execOp a.eval o).run P w = .ok (.value v') w ∧ VR β (memOf w0) v v' := by
  have lift : ∀ {s : Sem Value}, Gives P w β (memOf w0) s v → (execOp a.eval o = do pure (.value (← s))) → ∃ v', (execOp a.eval o).run P w = .ok (.value v') w ∧ VR β (memOf w0) v v' := by
    intro s ⟨v', e1, e2⟩ he
    exact ⟨v', by rw [he]; simp only [Sem.run_bind, e1, Result.andThen_ok, Sem.run_pure], e2⟩
  cases ho : o.op <;> rw [ho] at h <;> simp only [readOp] at h <;> try (cases h; done)
  case move x => exact ⟨a.eval x, by simp only [execOp, ho, Sem.run_pure], ev_sound E h⟩
  case assign x => exact ⟨a.eval x, by simp only [execOp, ho, Sem.run_pure], ev_sound E h⟩
  case pick c x y =>
    obtain ⟨v', e1, e2⟩ := pick_sound (P := P) E h w
    refine ⟨v', ?_, e2⟩
    simp only [execOp, ho, Sem.run_bind] at e1 ⊢
    cases hb : (asBool (a.eval c)).run P w with
    | ok b w' =>
      rw [hb] at e1
      simp only [Result.andThen_ok, Sem.run_pure] at e1 ⊢
      injection e1 with e1 e3; rw [e1, e3]
    | halt x w' => rw [hb] at e1; simp [Result.andThen] at e1
  case build t parts => exact lift (build_sound E h w) (by simp only [execOp, ho])
  case nilCheck x => exact nil_sound R E ho h
  case binOp op t x y yt =>
    unfold doBin at h
    split at h
    · rename_i p q hp hq
      exact lift (binA_sound h (ev_sound E hp) (ev_sound E hq) w) (by simp only [execOp, ho])
    · cases h
  case unOp op t x =>
    unfold doUn at h
    split at h
    · rename_i p hp
      exact lift (un_sound h (ev_sound E hp) w) (by simp only [execOp, ho])
    · cases h
  case makeInterface t x => exact lift (ifc_sound E h w) (by simp only [execOp, ho])
  case makeFunc f first captured =>
    unfold doFunc at h
    split at h
    · rename_i p q hp hq
      injection h with h; subst h
      have k1 := evs_sound E hp
      have k2 := evs_sound E hq
      refine ⟨_, ?_, .fn f _ _ _ _ k1 k2⟩
      simp only [execOp, ho, Instr.makeFunc, Sem.run_bind, Sem.run_pure, Result.andThen_ok, map_arr]
    · cases h
  case fieldAddr s x f => exact lift (fieldAddr_sound E h w) (by simp only [execOp, ho])
  case field s x f => exact lift (field_sound E h w) (by simp only [execOp, ho])
  case indexAddr t x i => exact lift (indexAddr_sound E h w) (by simp only [execOp, ho])
  case index t x i => exact lift (index_sound E h w) (by simp only [execOp, ho])
  case typeAssert x t as ok => exact lift (assert_sound (t := t) E h w) (by simp only [execOp, ho])
  case extract x i => exact lift (extract_sound E h w) (by simp only [execOp, ho])
  case load t x => exact lift (load_sound R E h) (by simp only [execOp, ho])
  case slice t x lo hi mx => exact lift (slice_sound R E h) (by simp only [execOp, ho])
  case convert s d x => exact lift (convert_sound R E h) (by simp only [execOp, ho])
  case lookup t x i ok => exact lift (lookup_sound R E h) (by simp only [execOp, ho])
  case call c => exact readCall_sound R E ho h
end
end Go.VI
