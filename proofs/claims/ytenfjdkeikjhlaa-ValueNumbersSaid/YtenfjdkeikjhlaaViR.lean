/-
  The loud operations: calls, and all together.
-/
import Derived.Test.YtenfjdkeikjhlaaViQ
set_option autoImplicit false
set_option linter.unusedVariables false
namespace Go.VI
open Go.RowKit

section
variable {P : Program} {w w' w0 : World} {β β' : Bt} {H H' : AH} {nt : Nat} {e : Env} {a : Act} {M : Mem}

theorem calls_wp {o : Oper} {next : Act → World → Prop} {Q : Exit → Act → World → Prop} {call : CallF} (C : CallSound P w0 call) (R : Rel P w0 β H w) {g : FuncId} {args : List AV} {vs : List Value} {r : OpR}
    (h : ofOut (call g args H) = some r) (hv : VRs β (memOf w0) args vs) (hrun : Enters P g → (execOp a.eval o).run P w = .ok (.enter g vs.toArray) w) (k : LoudR P w0 β H w a o next Q r) : o.wp P a w next Q := by
  cases hc : call g args H with
  | none => rw [hc] at h; cases h
  | some x =>
    obtain ⟨out, H'⟩ := x
    rw [hc] at h
    obtain ⟨hent, hcall⟩ := C g args H out H' hc
    have hcall := hcall β w vs R hv
    unfold Oper.wp
    rw [hrun hent, Oper.upon_enter]
    refine hcall.mono fun e w' ⟨β', hm, ho⟩ => ?_
    cases out with
    | ret v =>
      obtain ⟨v', rfl, hr⟩ := ho
      simp only [ofOut, Option.some.injEq] at h; subst h
      exact k v' w' β' hm hr
    | pan v =>
      obtain ⟨v', rfl, hr⟩ := ho
      simp only [ofOut, Option.some.injEq] at h; subst h
      exact k v' w' β' hm hr
theorem run_callFunc {f : FuncId} {args : Array Value} (h : Enters P f) (w : World) : (callFunc f args).run P w = .ok (.enter f args) w := by
  obtain ⟨fn, h1, h2, h3⟩ := h
  simp only [callFunc, Sem.run_bind, run_program, Result.andThen_ok, h1, h2, h3, Bool.false_eq_true, if_false, Sem.run_pure]
theorem callV_sound {o : Oper} {next : Act → World → Prop} {Q : Exit → Act → World → Prop} {call : CallF} (C : CallSound P w0 call) (R : Rel P w0 β H w) {c : Call} {f : Operand} {r : OpR} (E : ERel β (memOf w0) nt e a) (ho : o.op = .call c) (hc : c.callee = .value f)
    (h : doCallV call e H f c.args.toList = some r) (k : LoudR P w0 β H w a o next Q r) : o.wp P a w next Q := by
  unfold doCallV at h
  split at h
  · rename_i g first cap vs hf hvs
    have k1 := ev_sound E hf
    have k2 := evs_sound E hvs
    generalize hfv : a.eval f = vf at k1
    cases k1 with | fn _ _ _ v1 v2 h1 h2 =>
    refine calls_wp C R h ((h1.append k2).append h2) (fun hent => ?_) k
    simp only [execOp, ho, resolve, hc, hfv, Deferred.ofValue, Sem.run_bind, Sem.run_pure, Result.andThen_ok, invoke]
    have e1 : v1.toArray ++ c.args.map a.eval ++ v2.toArray = (v1 ++ c.args.toList.map a.eval ++ v2).toArray := by apply Array.ext'; simp
    rw [e1]
    exact run_callFunc hent w
  · cases h
theorem method_run {t : TypeId} {name : String} {f : FuncId} {v : Value} (h : methodA P t name = some f) (n : Nat) (w : World) : (method (n + 1) t v name).run P w = .ok (f, v) w := by
  unfold methodA at h
  split at h
  · rename_i i hi
    split at h
    · rename_i m hm
      split at h
      · rename_i hp
        have hpath : m.path.toList = [] := by simpa using hp
        split at h
        · rename_i g el hfn hu
          injection h with h; subst h
          simp [method, typeInfo, hi, hm, hpath, follow, hfn, receiverAt, run_underlying hu, Place.get]
        · cases h
        · cases h
        · rename_i g d hn1 hn2 hfn hu
          injection h with h; subst h
          cases d <;> first
            | exact (hn1 _ _ _ rfl rfl).elim
            | exact (hn1 _ rfl).elim
            | exact (hn2 _ rfl).elim
            | simp [method, typeInfo, hi, hm, hpath, follow, hfn, receiverAt, run_underlying hu, Place.get]
        · cases h
      · cases h
    · cases h
  · cases h
theorem invoke_sound {o : Oper} {next : Act → World → Prop} {Q : Exit → Act → World → Prop} {call : CallF} (C : CallSound P w0 call) (R : Rel P w0 β H w) {c : Call} {x : Operand} {name : String} {r : OpR} (E : ERel β (memOf w0) nt e a) (ho : o.op = .call c) (hc : c.callee = .invoke x name)
    (h : doInvoke P call e H x name c.args.toList = some r) (k : LoudR P w0 β H w a o next Q r) : o.wp P a w next Q := by
  unfold doInvoke at h
  split at h
  · rename_i t v vs hx hvs
    split at h
    · rename_i g hg
      have k1 := ev_sound E hx
      have k2 := evs_sound E hvs
      generalize hxv : a.eval x = vx at k1
      cases k1 with | ifc _ _ vy h1 =>
      refine calls_wp C R h (.cons _ _ _ _ h1 k2) (fun hent => ?_) k
      simp only [execOp, ho, resolve, hc, hxv, Sem.run_bind, Sem.run_pure, Result.andThen_ok, invoke]
      have e0 : (#[Value.iface t vy] ++ c.args.map a.eval)[0]? = some (.iface t vy) := by rw [Array.getElem?_append_left (by simp)]; rfl
      have e1 : (#[Value.iface t vy] ++ c.args.map a.eval).extract 1 (#[Value.iface t vy] ++ c.args.map a.eval).size = c.args.map a.eval := by
        apply Array.ext'
        simp only [Array.toList_extract, Array.toList_append, Array.toList_map, List.extract_eq_take_drop, Array.size_append, Array.size_map]
        show List.take _ (c.args.toList.map a.eval) = _
        rw [List.take_of_length_le (by simp)]
      simp only [e0, e1]
      have hn : ∃ n, P.types.size + Made.depth = n + 1 := ⟨P.types.size + 99, rfl⟩
      obtain ⟨n, hn⟩ := hn
      simp only [callMethod, Sem.run_bind, run_program, Result.andThen_ok, hn, method_run hg]
      have e2 : (#[vy] ++ c.args.map a.eval) = (vy :: c.args.toList.map a.eval).toArray := by apply Array.ext'; simp
      rw [e2]
      exact run_callFunc hent w
    · cases h
  · cases h
theorem freeze_rel (R : Rel P w0 β H w) {b : Nat} {p : Pl} {cells : List AV} {el : TypeId} {op : Bool} {fam : Option (Nat × Nat)} (hb : β b = some p) (hat : H.at b = some (.row cells el op fam)) :
    ∃ cc el' fz, w.heap[p.c]? = some (.cells cc el' fz) ∧ Rel P w0 β H (w.freeze ⟨p.c, cc.size, none⟩ 1) := by
  obtain ⟨o1, o2, o3, cc, elc, fz, o4, o5, o6, us, o7, o8⟩ := R.row hb hat
  refine ⟨cc, elc, fz, o4, ?_⟩
  have hlt := (R.dom b p hb).2.2.1
  have hbase := (R.dom b p hb).2.1
  obtain ⟨fz', hself, hfz⟩ : ∃ fz', (w.freeze ⟨p.c, cc.size, none⟩ 1).heap[p.c]? = some (.cells cc elc fz') ∧ fzOk cc fz' := by
    obtain ⟨lo, hi⟩ := fz
    by_cases c : lo = hi
    · refine ⟨(cc.size, cc.size + 1), by simp [World.freeze, Array.getElem?_modify, o4, c], .inr (Nat.le_refl _)⟩
    · refine ⟨(min lo cc.size, max hi (cc.size + 1)), by simp [World.freeze, Array.getElem?_modify, o4, c], ?_⟩
      unfold fzOk at o5 ⊢; simp only at o5 ⊢; omega
  have hother : ∀ k, k ≠ p.c → (w.freeze ⟨p.c, cc.size, none⟩ 1).heap[k]? = w.heap[k]? := fun k hk => by simp [World.freeze, Array.getElem?_modify, Ne.symm hk]
  have hsz : (w.freeze ⟨p.c, cc.size, none⟩ 1).heap.size = w.heap.size := by simp [World.freeze]
  refine ⟨⟨R.below.os, R.below.tape, R.below.output, by rw [hsz]; exact R.below.size, fun k hk => by rw [hother k (by omega)]; exact R.below.block k hk⟩, fun j q h => by rw [hsz]; exact R.dom j q h, fun j q x h hx => ?_, R.apart, R.tip, R.wf, R.wff, R.unm, R.fam⟩
  by_cases c : q.c = p.c
  · have := R.obj j q x h hx
    cases x with
    | row cells' el2 op2 fam2 =>
      obtain ⟨h1, h2, h3, cc', el', fz2, h4, h5, h6, vs, h7, h8⟩ := this
      rw [c, o4] at h4; injection h4 with h4; injection h4 with e1 e2 e3; subst e1; subst e2; subst e3
      exact ⟨h1, h2, h3, cc, elc, fz', by rw [c]; exact hself, hfz, h6, vs, h7, h8⟩
    | map es => obtain ⟨ces, clock, h1, _⟩ := this; rw [c, o4] at h1; cases h1
    | siter s q => obtain ⟨bb, h1, _⟩ := this; rw [c, o4] at h1; cases h1
    | dead => trivial
  · exact (R.obj j q x h hx).keep (Bt.le_refl _) (hother _ c)
theorem stringish_sound (R : Rel P w0 β H w) {o : Oper} {next : Act → World → Prop} {Q : Exit → Act → World → Prop} {s d : TypeId} {x : Operand} {r : OpR} (E : ERel β (memOf w0) nt e a) (ho : o.op = .convert s d x) (h : doStringish P e H s d x = some r)
    (k : LoudR P w0 β H w a o next Q r) : o.wp P a w next Q := by
  unfold doStringish at h
  split at h
  · rename_i el' el b off n cap hs hd hx
    split at h
    · rename_i cells e1 op fam hu hat hsd
      simp only [Bool.and_eq_true] at hsd
      have hcap := hsd.2
      rw [blt_iff, decide_eq_true_iff] at hcap
      have hsd := Nat.eq_of_beq_eq_true hsd.1
      subst hsd
      injection h with h; subst h
      have k1 := ev_sound E hx
      generalize hxv : a.eval x = vx at k1
      have hb : ∃ p, β b = some p := by cases k1 with
        | sl _ _ _ _ _ _ _ hl hc => obtain ⟨p, hb, _⟩ := hc; exact ⟨p, hb⟩
        | sl0 _ _ _ _ _ _ hl hc => obtain ⟨p, hb, _⟩ := hc; exact ⟨p, hb⟩
      obtain ⟨p, hb⟩ := hb
      obtain ⟨cc, elc, fz, hh, hrel⟩ := freeze_rel R hb hat
      have mv : Moves P w0 β β H H (w.freeze ⟨p.c, cc.size, none⟩ 1) := .refl hrel
      have fin : ∀ v' w', (convert s s vx).run P w = .ok v' w' → Moves P w0 β β H H w' → VR β (memOf w0) (.sl (.mt b) off n cap) v' → o.wp P a w next Q := fun v' w' hrun hm hv => by
        unfold Oper.wp
        simp only [execOp, ho, hxv, Sem.run_bind, hrun, Result.andThen_ok, Sem.run_pure, Oper.upon_value]
        exact k v' w' β hm hv
      have hel : el' = el := by rw [hs] at hd; injection hd with hd; injection hd
      subst hel
      cases k1 with
      | sl _ _ _ _ cap' c o' hl hc =>
        cases hl with | mt _ q hq =>
        rw [hb] at hq; injection hq with hq; subst hq
        refine fin _ _ ?_ mv (.sl _ _ _ _ _ _ _ (.mt b p hb) hc)
        simp [convert, run_underlying hs, run_underlying hu, markStringish, World.shape?, hh]
      | sl0 _ _ _ c o' ad hl hc => have := cap_le R hc; omega
    · cases h
  · cases h
theorem panic_sound (R : Rel P w0 β H w) {o : Oper} {next : Act → World → Prop} {Q : Exit → Act → World → Prop} {x : Operand} {r : OpR} (E : ERel β (memOf w0) nt e a) (ho : o.op = .panic x) (h : doPanic e H x = some r)
    (k : LoudR P w0 β H w a o next Q r) : o.wp P a w next Q := by
  unfold doPanic at h
  split at h
  · rename_i t v hx
    injection h with h; subst h
    have k1 := ev_sound E hx
    generalize hxv : a.eval x = vx at k1
    cases k1 with | ifc _ _ vy h1 =>
    unfold Oper.wp
    simp only [execOp, ho, hxv, Instr.panic, Sem.run_bind, run_goPanic, Result.andThen_halt, Oper.upon_panic]
    exact k _ w β (.refl R) (.ifc _ _ _ h1)
  · cases h
theorem defer_sound (R : Rel P w0 β H w) {o : Oper} {next : Act → World → Prop} {Q : Exit → Act → World → Prop} {c : Call} {r : OpR} (E : ERel β (memOf w0) nt e a) (ho : o.op = .defer c) (h : doDefer e c = some r)
    (k : LoudR P w0 β H w a o next Q r) : o.wp P a w next Q := by
  unfold doDefer at h
  split at h
  · rename_i f hc
    unfold deferV at h
    split at h
    · rename_i g first cap vs hf hvs
      injection h with h; subst h
      have k1 := ev_sound E hf
      have k2 := evs_sound E hvs
      generalize hfv : a.eval f = vf at k1
      cases k1 with | fn _ _ _ v1 v2 h1 h2 =>
      unfold Oper.wp
      simp only [execOp, ho, resolve, hc, hfv, Deferred.ofValue, Sem.run_bind, Sem.run_pure, Result.andThen_ok, Oper.upon_defer]
      refine k _ w rfl ⟨v2, v1 ++ c.args.toList.map a.eval, ?_, h2, h1.append k2⟩
      congr 1
      apply Array.ext'; simp
    · cases h
  · cases h
theorem doCall_sound {call : CallF} (C : CallSound P w0 call) (R : Rel P w0 β H w) {o : Oper} {next : Act → World → Prop} {Q : Exit → Act → World → Prop} {c : Call} {r : OpR} (E : ERel β (memOf w0) nt e a) (ho : o.op = .call c) (h : doCall P call e H c = some r)
    (k : LoudR P w0 β H w a o next Q r) : o.wp P a w next Q := by
  unfold doCall at h
  split at h
  · rename_i b hc
    unfold doBuiltin at h
    split at h
    · exact append_sound R E ho hc h k
    · exact copy_sound R E ho hc h k
    · exact delete_sound R E ho hc h k
    · cases h
  · rename_i f hc; exact callV_sound C R E ho hc h k
  · rename_i x name hc; exact invoke_sound C R E ho hc h k
/-- The main theorem on what is loud. -/
theorem loudOp_sound {call : CallF} (C : CallSound P w0 call) (R : Rel P w0 β H w) {o : Oper} {next : Act → World → Prop} {Q : Exit → Act → World → Prop} {r : OpR} (E : ERel β (memOf w0) nt e a) (h : loudOp P call e H o.op = some r)
    (k : LoudR P w0 β H w a o next Q r) : o.wp P a w next Q := by
  cases ho : o.op <;> rw [ho] at h <;> simp only [loudOp] at h <;> try (cases h; done)
  case store t x y => exact store_sound R E ho h k
  case mapUpdate t m kk x => exact mapUp_sound R E (.inl ho) h k
  case insert t m kk x => exact mapUp_sound R E (.inr ho) h k
  case call c => exact doCall_sound C R E ho h k
  case convert s d x => exact stringish_sound R E ho h k
  case panic x => exact panic_sound R E ho h k
  case defer c => exact defer_sound R E ho h k

theorem alloc_fam {op : Op} {x : AObj} {f : Nat → AV} (h : allocOp P e op = some (x, f)) : isRowFam x = none ∧ x ≠ .dead := by
  cases op <;> simp only [allocOp] at h <;> try (cases h; done)
  case alloc t =>
    unfold doAlloc mkRow at h
    split at h <;> cases h
    exact ⟨rfl, by simp⟩
  case box t y =>
    unfold doBox mkRow at h
    split at h <;> cases h
    exact ⟨rfl, by simp⟩
  case buildSlice t n parts =>
    unfold doBuildSlice at h
    split at h
    · unfold buildSl1 at h
      split at h
      · unfold buildSl at h
        split at h <;> cases h
        exact ⟨rfl, by simp⟩
      · cases h
    · cases h
  case makeMap t r =>
    unfold doMakeMap mkMap at h
    split at h <;> cases h <;> exact ⟨rfl, by simp⟩
  case makeSlice t l c =>
    unfold doMakeSlice at h
    split at h
    · unfold makeSl1 at h
      split at h
      · unfold makeSl at h
        split at h
        · split at h <;> cases h
          exact ⟨rfl, by simp⟩
        · cases h
      · cases h
    · cases h
  case convert s d y =>
    unfold doStrBytes at h
    split at h
    · unfold strBytes at h
      split at h <;> cases h
      exact ⟨rfl, by simp⟩
    · cases h
  case range t y =>
    unfold doRange at h
    split at h <;> cases h
    exact ⟨rfl, by simp⟩
/-- An operation, whatever its kind. -/
theorem opA_sound {call : CallF} (C : CallSound P w0 call) (R : Rel P w0 β H w) {o : Oper} {next : Act → World → Prop} {Q : Exit → Act → World → Prop} {r : OpR} (E : ERel β (memOf w0) nt e a) (h : opA P call e H o.op = some r)
    (k : LoudR P w0 β H w a o next Q r) : o.wp P a w next Q := by
  unfold opA at h
  split at h
  · obtain ⟨v, hv, rfl⟩ := Option.map_eq_some_iff.1 h
    obtain ⟨v', h1, h2⟩ := readOp_sound R E hv
    unfold Oper.wp
    rw [h1, Oper.upon_value]
    exact k v' w β (.refl R) h2
  · obtain ⟨⟨x, f⟩, hv, rfl⟩ := Option.map_eq_some_iff.1 h
    have hN : β H.n = none := by
      cases h : β H.n with
      | none => rfl
      | some q => have := (R.dom _ _ h).1; omega
    -- the push is a block that nobody has
    have hfam : isRowFam x = none := (alloc_fam hv).1
    have R' := R.push hfam
    obtain ⟨_, hd, v', w', p, h1, h2, h3⟩ := allocOp_sound R' E hv hN (Nat.lt_succ_self _) (by simp [AH.push, Tr.get_set_eq])
    unfold Oper.wp
    rw [h1, Oper.upon_value]
    refine k v' w' _ ⟨Bt.le_upd hN p, h2, Nat.le_succ _, fun j hj hjn => ?_⟩ h3
    have hjn' : j ≠ H.n := by omega
    exact ⟨by rw [Bt.upd_ne _ _ hjn']; exact hjn, by simp only [AH.push]; rw [Tr.get_set_ne _ _ hjn']⟩
  · exact loudOp_sound C R E h k
end
end Go.VI
