/-
  What the abstract machine looks up, the model looks up: maps, lengths, all together.
-/
import Derived.Test.YtenfjdkeikjhlaaViG
set_option autoImplicit false
set_option linter.unusedVariables false
namespace Go.VI
open Go.RowKit

section
variable {P : Program} {w w0 : World} {β : Bt} {H : AH} {nt : Nat} {e : Env} {a : Act} {M : Mem}

theorem keyCell_check {t : TypeId} {k : AV} {vk : Value} (h : keyCell P t k = true) (hk : VR β M k vk) (em : Bool) (n : Nat) (w : World) : (Instr.checkKey em (n + 1) t vk).run P w = .ok () w := by
  unfold keyCell at h
  split at h
  · rename_i hu; cases hk; simp [Instr.checkKey, run_underlying hu]
  · rename_i hu; cases hk; simp [Instr.checkKey, run_underlying hu]
  · rename_i hu; cases hk; simp [Instr.checkKey, run_underlying hu]
  · cases h
theorem keyCell_part {t : TypeId} {k : AV} (h : keyCell P t k = true) : isAggB P t = some false := by
  unfold keyCell at h
  split at h
  · rename_i hu; simp [isAggB, hu]
  · rename_i hu; simp [isAggB, hu]
  · rename_i hu; simp [isAggB, hu]
  · cases h
theorem keyFields_check (em : Bool) (n : Nat) (w : World) (vs : List Value) : ∀ (fs : List Field) (i : Nat) (cs : List AV) (us : List Value), keyFields P i fs cs = true → VRs β M cs us → us = vs.drop i →
    (forIn fs PUnit.unit fun f (_ : PUnit) => (do
      if f.name ≠ "_" then Instr.checkKey em (n + 1) f.type (← part f.type vs.toArray f.offset)
      pure (ForInStep.yield PUnit.unit) : Sem (ForInStep PUnit))).run P w = .ok PUnit.unit w
  | [], i, cs, us, h, _, _ => by simp
  | f :: fs, i, [], us, h, _, _ => by simp [keyFields] at h
  | f :: fs, i, c :: cs, us, h, hv, hd => by
    cases hv with | cons _ y _ s h1 h2 =>
    simp only [keyFields, Bool.and_eq_true, bne_iff_ne, beq_iff_eq, Nat.beq_eq] at h
    obtain ⟨⟨⟨⟨hn, hc⟩, hz⟩, ho⟩, hr⟩ := h
    have hy : vs[i]? = some y := by
      have := congrArg (fun l => l[0]?) hd
      simp only [List.getElem?_cons_zero, List.getElem?_drop, Nat.add_zero] at this
      exact this.symm
    have hs : s = vs.drop (i + 1) := by
      have := congrArg List.tail hd
      simpa [List.tail_drop] using this
    have hp : (part f.type vs.toArray f.offset).run P w = .ok y w := by
      simp [part, run_isAgg (keyCell_part hc), ho, hy]
    have := keyFields_check em n w vs fs (i + 1) cs s hr h2 hs
    simp only [List.forIn_cons, Sem.run_bind, if_pos hn, hp, Result.andThen_ok, keyCell_check hc h1, Sem.run_pure]
    exact this
theorem keyOk_check {t : TypeId} {k : AV} {vk : Value} (h : keyOk P t k = true) (hk : VR β M k vk) (em : Bool) (w : World) : (Instr.checkKey em 10000 t vk).run P w = .ok () w := by
  unfold keyOk at h
  split at h
  · rename_i fields cs hu
    cases hk with | agg _ vs hv =>
    simp only [Bool.and_eq_true, Bool.not_eq_true'] at h
    have := keyFields_check (P := P) (β := β) (M := M) em 9998 w vs fields.toList 0 cs vs h.1 hv (by simp)
    show (Instr.checkKey em (9999 + 1) t _).run P w = _
    unfold Instr.checkKey
    simp only [Sem.run_bind, run_underlying hu, Result.andThen_ok]
    rw [← Array.forIn_toList]
    have e : ∀ (x : Result PUnit), x = .ok PUnit.unit w → (x.andThen fun a w' => (pure () : Sem Unit).run P w') = .ok () w := fun x h => by subst h; rfl
    exact e _ this
  · exact keyCell_check h hk em 9999 w

/-- The comparison of keys, as the model makes it in a scalar's or a struct's case. -/
theorem keyEq_now {t : TypeId} {d : TypeDesc} {k k' : AV} {vk vk' : Value} {r : Bool} (hu : P.underlying t = some d) (hok : keyCell P t k = true) (h : keyEq P t k k' = some r) (hk : VR β M k vk) (hk' : VR β M k' vk') :
    Instr.sameNow d vk vk' = some r := by
  unfold keyCell at hok
  rw [hu] at hok
  unfold keyEq at h
  split at h
  · cases hk; cases hk'
    split at h
    · rename_i hjk
      rw [decide_eq_true_iff] at hjk
      subst hjk
      injection h with h; subst h
      split at hok <;> simp_all [Instr.sameNow, eqI_eq, beq_dec]
    · cases h
  · injection h with h; subst h
    generalize h1 : AV.str _ = q at hk
    cases hk <;> cases h1
    generalize h2 : AV.str _ = q at hk'
    cases hk' <;> cases h2
    rename_i x y
    have e : (x == y) = decide (x.data.toList = y.data.toList) := by rw [beq_toListBytes, ByteArray.toList_eq, ByteArray.toList_eq, beq_dec]
    split at hok <;> first
      | (rename_i hx; cases hx; done)
      | (simp only [Instr.sameNow, e, eqS_eq] at *; simp_all; done)
      | (simp_all [Instr.sameNow, eqS_eq]; constructor <;> intro q <;> simp_all [← Array.toList_inj])
  · injection h with h; subst h
    cases hk; cases hk'
    split at hok <;> simp_all [Instr.sameNow]
  · split at hok <;> first | simp_all | cases hok
  · cases h
theorem findNow_sound {t : TypeId} {d : TypeDesc} {k : AV} {vk : Value} (hu : P.underlying t = some d) (hok : keyCell P t k = true) (hk : VR β M k vk) :
    ∀ {es : List (AV × AV)} {ces : List MapEntry} {r : Option AV} (i : Nat), findA P t k es = some r → Ents β M es ces →
      ∃ r', Instr.findNow d vk ces i = some r' ∧ (r = none → r' = none) ∧ (∀ v, r = some v → ∃ j v', r' = some (j, v') ∧ VR β M v v')
  | [], [], r, i, h, _ => by simp only [findA, Option.some.injEq] at h; subst h; exact ⟨none, rfl, fun _ => rfl, (fun v hv => by cases hv)⟩
  | [], _ :: _, _, _, _, he => he.elim
  | _ :: _, [], _, _, _, he => he.elim
  | (k', v) :: es, c :: ces, r, i, h, he => by
    obtain ⟨h1, h2, h3⟩ := he
    simp only [findA] at h
    split at h
    · rename_i hq
      injection h with h; subst h
      have := keyEq_now hu hok hq hk h1
      exact ⟨some (i, c.val), by simp [Instr.findNow, this], (fun h => by cases h), (fun v' hv => by cases hv; exact ⟨i, c.val, rfl, h2⟩)⟩
    · rename_i hq
      have := keyEq_now hu hok hq hk h1
      obtain ⟨r', e1, e2⟩ := findNow_sound hu hok hk (i + 1) h h3
      exact ⟨r', by simp [Instr.findNow, this, e1], e2⟩
    · cases h
theorem findAsking_sound {t : TypeId} {cs : List AV} {vk : Value} (hk : VR β M (.agg cs) vk) (w : World) :
    ∀ {es : List (AV × AV)} {ces : List MapEntry} {r : Option AV} (i : Nat), findA P t (.agg cs) es = some r → Ents β M es ces →
      ∃ r', (Instr.findAsking t vk ces i).run P w = .ok r' w ∧ (r = none → r' = none) ∧ (∀ v, r = some v → ∃ j v', r' = some (j, v') ∧ VR β M v v')
  | [], [], r, i, h, _ => by simp only [findA, Option.some.injEq] at h; subst h; exact ⟨none, rfl, fun _ => rfl, (fun v hv => by cases hv)⟩
  | [], _ :: _, _, _, _, he => he.elim
  | _ :: _, [], _, _, _, he => he.elim
  | (k', v) :: es, c :: ces, r, i, h, he => by
    obtain ⟨h1, h2, h3⟩ := he
    have key : ∀ b, keyEq P t (.agg cs) k' = some b → (Op.equal t vk c.key).run P w = .ok b w := by
      intro b hb
      cases k' <;> simp only [keyEq] at hb <;> first | (cases hb; done) | (split at hb <;> first | exact eqA_sound 10000 hb hk h1 | cases hb)
    simp only [findA] at h
    split at h
    · rename_i hq
      injection h with h; subst h
      exact ⟨some (i, c.val), by simp [Instr.findAsking, key _ hq], (fun h => by cases h), (fun v' hv => by cases hv; exact ⟨i, c.val, rfl, h2⟩)⟩
    · rename_i hq
      obtain ⟨r', e1, e2⟩ := findAsking_sound hk w (i + 1) h h3
      exact ⟨r', by simp [Instr.findAsking, key _ hq, e1], e2⟩
    · cases h
theorem findKey_sound {t : TypeId} {k : AV} {vk : Value} (hok : keyOk P t k = true) (hk : VR β M k vk) (w : World) {es : List (AV × AV)} {ces : List MapEntry} {r : Option AV} (h : findA P t k es = some r) (he : Ents β M es ces) :
    ∃ r', (Instr.findKey t vk ces).run P w = .ok r' w ∧ (r = none → r' = none) ∧ (∀ v, r = some v → ∃ j v', r' = some (j, v') ∧ VR β M v v') := by
  unfold keyOk at hok
  split at hok
  · rename_i fields cs hu
    cases es with
    | nil =>
      cases ces with
      | cons _ _ => exact he.elim
      | nil =>
      simp only [findA, Option.some.injEq] at h; subst h
      exact ⟨none, by simp [Instr.findKey, run_underlying hu, Instr.findNow], fun _ => rfl, (fun v hv => by cases hv)⟩
    | cons x es =>
      cases ces with
      | nil => exact he.elim
      | cons c ces =>
      obtain ⟨r', e1, e2⟩ := findAsking_sound hk w 0 h he
      have hnow : Instr.findNow (.struct fields) vk (c :: ces) 0 = none := by simp [Instr.findNow, Instr.sameNow]
      exact ⟨r', by simp only [Instr.findKey, Sem.run_bind, run_underlying hu, Result.andThen_ok, hnow]; exact e1, e2⟩
  · have hu : ∃ d, P.underlying t = some d := by
      unfold keyCell at hok
      cases hu : P.underlying t with
      | none => simp [hu] at hok
      | some d => exact ⟨d, rfl⟩
    obtain ⟨d, hu⟩ := hu
    obtain ⟨r', e1, e2⟩ := findNow_sound hu hok hk 0 h he
    exact ⟨r', by simp only [Instr.findKey, Sem.run_bind, run_underlying hu, Result.andThen_ok, e1, Sem.run_pure], e2⟩

theorem mapAt_sound (R : Rel P w0 β H w) {m : AV} {vm : Value} {es : List (AV × AV)} (h : mapAt H m = some es) (hm : VR β (memOf w0) m vm) :
    (vm = .map none ∧ es = []) ∨ ∃ r ces clock, vm = .map (some r) ∧ w.heap[r]? = some (.map ces clock) ∧ Ents β (memOf w0) es ces.toList := by
  unfold mapAt at h
  split at h
  · injection h with h; subst h; cases hm; exact .inl ⟨rfl, rfl⟩
  · rename_i b
    cases hm with | map _ p hb =>
    split at h
    · rename_i es' hat
      injection h with h; subst h
      obtain ⟨ces, clock, h1, h2⟩ := R.obj b p _ hb hat
      exact .inr ⟨p.c, ces, clock, rfl, h1, h2⟩
    · cases h
  · cases h
theorem run_getMap {r : Nat} {ces : Array MapEntry} {clock : Nat} (h : w.heap[r]? = some (.map ces clock)) : (getObj r).run P w = .ok (.map ces clock) w := by
  simp [getObj, Sem.run, h]
theorem lookup_sound (R : Rel P w0 β H w) {t : TypeId} {x i : Operand} {ok : Bool} {v : AV} (E : ERel β (memOf w0) nt e a) (h : doLookup P e H t x i ok = some v) : Gives P w β (memOf w0) (Instr.lookup t (a.eval x) (a.eval i) ok) v := by
  unfold doLookup at h
  split at h
  · rename_i kt et m k hu hx hi
    split at h
    · rename_i es hok hes
      have k1 := ev_sound E hx
      have k2 := ev_sound E hi
      generalize a.eval x = vx at *
      generalize a.eval i = vi at *
      have fin : ∀ (ces : List MapEntry), Ents β (memOf w0) es ces → ∃ v', (do
          let (v, ok') ← match ← Instr.findKey kt vi ces with
            | some (_, v) => pure (v, true)
            | none => pure (← zeroValue et, false)
          pure (if ok then .tuple #[v, .bool ok'] else v) : Sem Value).run P w = .ok v' w ∧ VR β (memOf w0) v v' := by
        intro ces hE
        unfold lookOf at h
        split at h
        · rename_i r hf
          injection h with h; subst h
          obtain ⟨r', e1, _, e2⟩ := findKey_sound hok k2 w hf hE
          obtain ⟨j, v', rfl, hv⟩ := e2 _ rfl
          cases ok
          · exact ⟨v', by simp [e1], hv⟩
          · exact ⟨.tuple #[v', .bool true], by simp [e1], .tup _ [v', .bool true] (.cons _ _ _ _ hv (.one (.bool _)))⟩
        · rename_i hf
          obtain ⟨r', e1, e2, _⟩ := findKey_sound hok k2 w hf hE
          have e2 := e2 rfl
          subst e2
          obtain ⟨z, hz, rfl⟩ := Option.map_eq_some_iff.1 h
          obtain ⟨zv, h1, h2⟩ := zeroOf_sound (M := memOf w0) (β := β) hz
          cases ok
          · exact ⟨zv, by simp [e1, h1], h2⟩
          · exact ⟨.tuple #[zv, .bool false], by simp [e1, h1], .tup _ [zv, .bool false] (.cons _ _ _ _ h2 (.one (.bool _)))⟩
        · cases h
      rcases mapAt_sound R hes k1 with ⟨rfl, rfl⟩ | ⟨r, ces, clock, rfl, hh, hE⟩
      · obtain ⟨v', e1, e2⟩ := fin [] trivial
        refine ⟨v', ?_, e2⟩
        simp only [Instr.lookup, Sem.run_bind, run_underlying hu, Result.andThen_ok, Sem.run_pure, keyOk_check hok k2] at e1 ⊢
        exact e1
      · obtain ⟨v', e1, e2⟩ := fin ces.toList hE
        refine ⟨v', ?_, e2⟩
        simp only [Instr.lookup, Sem.run_bind, run_underlying hu, Result.andThen_ok, run_getMap hh, Sem.run_pure, keyOk_check hok k2] at e1 ⊢
        exact e1
    · cases h
  · cases h
end
end Go.VI
