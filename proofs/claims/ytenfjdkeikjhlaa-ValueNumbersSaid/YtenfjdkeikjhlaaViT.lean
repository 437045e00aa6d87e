/-
  A region in an open order: whatever order is drawn, it comes to what the plan comes to.
-/
import Derived.Test.YtenfjdkeikjhlaaViS
import Derived.Orders
set_option autoImplicit false
set_option linter.unusedVariables false
namespace Go.VI
open Go.RowKit

section
variable {P : Program} {w w' w0 : World} {β β' : Bt} {H H' : AH} {nt : Nat} {e : Env} {a : Act} {M : Mem}

/-! ### The temporaries that are looked at -/
theorem only_val (e : Env) (ts : List Nat) (t : Nat) : Env.val (only e ts) t = if t ∈ ts then e.val t else .tup [] := by
  induction ts with
  | nil => simp [only, Env.val, Tr.get_lf]
  | cons x r ih =>
    simp only [only, val_set, ih]
    by_cases h : t = x
    · subst h; simp
    · simp [h]
def actOnly (a : Act) (ts : List Nat) : Act := { a with tmps := (Array.range a.tmps.size).map fun t => if t ∈ ts then a.tmps.getD t undef else undef }
theorem actOnly_size (a : Act) (ts : List Nat) : (actOnly a ts).tmps.size = a.tmps.size := by simp [actOnly]
theorem actOnly_getD (a : Act) (ts : List Nat) (t : Nat) : (actOnly a ts).tmps.getD t undef = if t ∈ ts then a.tmps.getD t undef else undef := by
  simp only [actOnly, Array.getD_eq_getD_getElem?]
  by_cases h : t < a.tmps.size
  · simp [h]
  · have : a.tmps.size ≤ t := by omega
    simp [this]
theorem only_rel {ts : List Nat} (hs : nt ≤ a.tmps.size) (h : ∀ t ∈ ts, VR β M (e.val t) (a.tmps.getD t undef)) : ERel β M nt (only e ts) (actOnly a ts) := by
  refine ⟨by rw [actOnly_size]; exact hs, fun t => ?_⟩
  rw [only_val, actOnly_getD]
  split
  · rename_i ht; exact h t ht
  · exact undef_sound
theorem only_exec {o : Oper} (hs : ∀ cs b, o.op ≠ .select cs b) : execOp (actOnly a (operandTmps o.op)).eval o = execOp a.eval o := by
  refine execOp_congr o hs fun x hx => ?_
  cases x with
  | tmp t =>
    have : t ∈ operandTmps o.op := List.mem_filterMap.2 ⟨.tmp t, by simpa using hx, rfl⟩
    simp only [Act.eval, actOnly_getD, this, if_true]
  | const _ => rfl
  | global _ => rfl
  | func _ => rfl
theorem wp_transfer {o : Oper} {a a' : Act} {K K' : Act → World → Prop} {Q : Exit → Act → World → Prop} (he : execOp a'.eval o = execOp a.eval o)
    (h : o.wp P a' w K' (fun _ _ _ => False)) (hK : ∀ v w', K' (a'.put o.dst v) w' → K (a.put o.dst v) w')
    (hD : ∀ d w', K' ({ a' with defers := d :: a'.defers }.put o.dst undef) w' → False) : o.wp P a w K Q := by
  unfold Oper.wp at *
  rw [← he]
  generalize (execOp a'.eval o).run P w = r at *
  cases r with
  | ok n w' =>
    cases n <;> simp only [Oper.upon] at h ⊢ <;>
      first
        | exact hK _ _ h
        | exact absurd h (hD _ _)
        | exact Calls.mono h (fun e w'' he => by
            cases e with
            | returned v => exact hK _ _ he
            | panicked c => exact he.elim
            | outgrown => obtain ⟨_, _, h⟩ := he; exact h.elim)
        | exact Rows.mono h (fun _ _ he => hK _ _ he)
  | halt x w' => cases x <;> simp only [Oper.upon] at h ⊢

/-! ### What must stand ahead -/
theorem or_bits {l : List Edge} {acc : List Nat} {m i : Nat} (h : (l.foldl (fun m e => if Region.binds .any e then m ||| 2 ^ e.on ||| acc.getD e.on 0 else m) i).testBit m = true) :
    i.testBit m = true ∨ ∃ e ∈ l, Region.binds .any e = true ∧ (e.on = m ∨ (acc.getD e.on 0).testBit m = true) := by
  induction l generalizing i with
  | nil => exact .inl h
  | cons x r ih =>
    simp only [List.foldl_cons] at h
    rcases ih h with h | ⟨e, he, hb⟩
    · by_cases c : Region.binds .any x = true
      · simp only [c, if_true, Nat.testBit_or, Bool.or_eq_true] at h
        rcases h with (h | h) | h
        · exact .inl h
        · rw [Nat.testBit_two_pow, decide_eq_true_iff] at h
          exact .inr ⟨x, List.mem_cons_self, c, .inl h⟩
        · exact .inr ⟨x, List.mem_cons_self, c, .inr h⟩
      · simp only [c] at h; exact .inl h
    · exact .inr ⟨e, List.mem_cons_of_mem _ he, hb⟩
theorem masks_prefix : ∀ (l : List Oper) (acc : List Nat), ∃ t, masks l acc = acc ++ t
  | [], acc => ⟨[], by simp [masks]⟩
  | o :: r, acc => by
    obtain ⟨t, h⟩ := masks_prefix r (acc ++ [o.after.toList.foldl (fun m e => if Region.binds .any e then m ||| 2 ^ e.on ||| acc.getD e.on 0 else m) 0])
    exact ⟨_, by simp only [masks]; rw [h, List.append_assoc]⟩
theorem masks_spec : ∀ (l : List Oper) (acc : List Nat) (k : Nat) (o : Oper) (m : Nat), l[k]? = some o → ((masks l acc).getD (acc.length + k) 0).testBit m = true →
    ∃ e ∈ o.after.toList, Region.binds .any e = true ∧ (e.on = m ∨ ((masks l acc).getD e.on 0).testBit m = true)
  | [], _, _, _, _, h, _ => by cases h
  | x :: r, acc, 0, o, m, h, hb => by
    simp only [List.getElem?_cons_zero, Option.some.injEq] at h; subst h
    obtain ⟨t, ht⟩ := masks_prefix r (acc ++ [x.after.toList.foldl (fun m e => if Region.binds .any e then m ||| 2 ^ e.on ||| acc.getD e.on 0 else m) 0])
    simp only [masks] at hb ⊢
    rw [ht] at hb ⊢
    have : ((acc ++ [x.after.toList.foldl (fun m e => if Region.binds .any e then m ||| 2 ^ e.on ||| acc.getD e.on 0 else m) 0]) ++ t).getD (acc.length + 0) 0 = x.after.toList.foldl (fun m e => if Region.binds .any e then m ||| 2 ^ e.on ||| acc.getD e.on 0 else m) 0 := by
      simp [List.getD]
    rw [this] at hb
    rcases or_bits hb with hb | ⟨e, he, hbi, hb⟩
    · simp at hb
    · refine ⟨e, he, hbi, hb.imp id fun hb => ?_⟩
      have hlt : e.on < acc.length := by
        rcases Nat.lt_or_ge e.on acc.length with h | h
        · exact h
        · simp [List.getD, h] at hb
      simp only [List.getD, List.append_assoc] at hb ⊢
      rw [List.getElem?_append_left hlt]; exact hb
  | x :: r, acc, k + 1, o, m, h, hb => by
    simp only [masks] at hb ⊢
    have := masks_spec r (acc ++ [x.after.toList.foldl (fun m e => if Region.binds .any e then m ||| 2 ^ e.on ||| acc.getD e.on 0 else m) 0]) k o m (by simpa using h)
    rw [show (acc ++ [x.after.toList.foldl (fun m e => if Region.binds .any e then m ||| 2 ^ e.on ||| acc.getD e.on 0 else m) 0]).length + k = acc.length + (k + 1) by simp; omega] at this
    exact this hb

/-- What is asked of the rest of a plan. -/
def Chain (P : Program) (ops : List Oper) (ms : List Nat) : List Nat → Prop
  | [] => True
  | i :: r => i ∉ r ∧ (∀ m, (ms.getD i 0).testBit m = true → m ≠ i ∧ m ∉ r) ∧ (((ops[i]?).map (isLoud P)).getD true = true → ∀ j ∈ r, (ms.getD j 0).testBit i = true) ∧ Chain P ops ms r
theorem and_sub {x d m : Nat} (h : ((x &&& d) == x) = true) (hm : x.testBit m = true) : d.testBit m = true := by
  rw [beq_iff_eq] at h
  rw [← h, Nat.testBit_and, Bool.and_eq_true] at hm
  exact hm.2
theorem ord_not {ms : List Nat} : ∀ {l : List Nat} {d : Nat}, ordOk ms l d = true → ∀ i ∈ l, d.testBit i = false
  | [], _, _, _, hi => by cases hi
  | x :: r, d, h, i, hi => by
    simp only [ordOk, Bool.and_eq_true, Bool.not_eq_true'] at h
    rcases List.mem_cons.1 hi with rfl | hi
    · exact h.1.1
    · have := ord_not h.2 i hi
      rw [Nat.testBit_or, Bool.or_eq_false_iff] at this
      exact this.1
theorem seg_in {ops : List Oper} {ms : List Nat} : ∀ {l : List Nat} {d : Nat}, segOk P ops ms l d = true → ∀ j ∈ l, ∀ m, d.testBit m = true → (ms.getD j 0).testBit m = true
  | [], _, _, _, hi, _, _ => by cases hi
  | x :: r, d, h, j, hi, m, hm => by
    simp only [segOk, Bool.and_eq_true] at h
    rcases List.mem_cons.1 hi with rfl | hi
    · have := h.1
      rw [beq_iff_eq] at this
      rw [← this, Nat.testBit_and, Bool.and_eq_true] at hm
      exact hm.1
    · refine seg_in h.2 j hi m ?_
      split
      · rw [Nat.testBit_or, hm]; rfl
      · exact hm
theorem chain_of {ops : List Oper} {ms : List Nat} : ∀ {l : List Nat} {d d' : Nat}, ordOk ms l d = true → segOk P ops ms l d' = true → Chain P ops ms l
  | [], _, _, _, _ => trivial
  | x :: r, d, d', h, k => by
    have h0 := h
    simp only [ordOk, Bool.and_eq_true, Bool.not_eq_true'] at h
    simp only [segOk, Bool.and_eq_true] at k
    have hr := ord_not h.2
    refine ⟨fun c => ?_, fun m hm => ?_, fun hl j hj => ?_, chain_of h.2 k.2⟩
    · have := hr x c
      rw [Nat.testBit_or, Bool.or_eq_false_iff, Nat.testBit_two_pow_self] at this
      exact absurd this.2 (by simp)
    · have hd := and_sub h.1.2 hm
      refine ⟨fun c => ?_, fun c => ?_⟩
      · subst c; rw [h.1.1] at hd; cases hd
      · have := hr m c
        rw [Nat.testBit_or, hd] at this; cases this
    · refine seg_in k.2 j hj x ?_
      rw [if_pos hl, Nat.testBit_or, Nat.testBit_two_pow_self]; simp

theorem wanted_at {ops : Array Oper} {o : Oper} (E : ∀ t ∈ looks ops.toList o, VR β M (e.val t) (a.tmps.getD t undef)) : Region.wanted o (yielded ops a.tmps) = wantedA ops.toList e o := by
  unfold Region.wanted wantedA
  unfold looks at E
  cases hg : o.guard with
  | none => rfl
  | some g =>
    obtain ⟨j, want⟩ := g
    rw [hg] at E
    simp only [yielded]
    rw [← Array.getElem?_toList]
    cases hj : ops.toList[j]? with
    | none => simp
    | some p =>
      simp only [Option.bind_some]
      simp only [hj] at E
      cases hd : p.dst with
      | none => simp
      | some d =>
        simp only [Option.bind_some]
        have hv := E d (by simp [hd])
        cases ht : a.tmps[d]? with
        | none =>
          have e1 : a.tmps.getD d undef = undef := by simp [Array.getD_eq_getD_getElem?, ht]
          rw [e1] at hv
          generalize e.val d = x at hv
          cases hv; rfl
        | some v =>
          have e1 : a.tmps.getD d undef = v := by simp [Array.getD_eq_getD_getElem?, ht]
          rw [e1] at hv
          generalize e.val d = x at hv
          cases hv <;> first | rfl | (simp [undef]; done) | (simp; done)

mutual
theorem Loc.beq_eq (a b : Loc) (h : Loc.beq a b = true) : a = b := by
  cases a <;> cases b <;> simp only [Loc.beq, Bool.false_eq_true] at h
  · simp only [beq_iff_eq] at h; rw [h]
  · rw [AV.beqs_eq _ _ h]
  termination_by SizeOf.sizeOf a
theorem AV.beq_eq (a b : AV) (h : AV.beq a b = true) : a = b := by
  cases a <;> cases b <;> simp only [AV.beq, Bool.false_eq_true] at h <;> try rfl
  case bool.bool => simp only [beq_iff_eq] at h; rw [h]
  case int.int => simp only [Bool.and_eq_true, decide_eq_true_iff, eqI_eq] at h; rw [h.1, h.2]
  case str.str => simp only [eqS_eq, decide_eq_true_iff] at h; rw [h]
  case ptr.ptr => simp only [Bool.and_eq_true, beq_iff_eq] at h; rw [Loc.beq_eq _ _ h.1, h.2]
  case sl.sl => simp only [Bool.and_eq_true, beq_iff_eq] at h; rw [Loc.beq_eq _ _ h.1.1.1, h.1.1.2, h.1.2, h.2]
  case map.map => simp only [beq_iff_eq] at h; rw [h]
  case fn.fn => simp only [Bool.and_eq_true, decide_eq_true_iff] at h; rw [h.1.1, AV.beqs_eq _ _ h.1.2, AV.beqs_eq _ _ h.2]
  case ifc.ifc => simp only [Bool.and_eq_true, beq_iff_eq] at h; rw [h.1, AV.beq_eq _ _ h.2]
  case agg.agg => rw [AV.beqs_eq _ _ h]
  case tup.tup => rw [AV.beqs_eq _ _ h]
  termination_by SizeOf.sizeOf a
theorem AV.beqs_eq (a b : List AV) (h : AV.beqs a b = true) : a = b := by
  cases a <;> cases b <;> simp only [AV.beqs, Bool.false_eq_true] at h
  · rfl
  · simp only [Bool.and_eq_true] at h
    rw [AV.beq_eq _ _ h.1, AV.beqs_eq _ _ h.2]
  termination_by SizeOf.sizeOf a
end
end
end Go.VI
