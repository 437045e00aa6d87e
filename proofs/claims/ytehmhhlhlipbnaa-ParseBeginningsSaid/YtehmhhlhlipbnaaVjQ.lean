/-
 append in regions of an open order; s[i:j].
-/
import Derived.Test.YtehmhhlhlipbnaaVjT
set_option autoImplicit false
set_option linter.unusedVariables false
set_option linter.unusedSimpArgs false
namespace Go.VI
section
variable {P : Program} {orc : CallF} {nt : Nat} {all l : List Oper} {K : St → Prop} {e : Env} {h : AH} {ds : List ADef}
variable {d : Nat} {ty : TypeId} {pos : String} {aft : Array Edge} {g : Option (Nat × Bool)}
variable {ms : List Nat} {ls : List Look} {il : List Nat} {i : Nat}
theorem ev_app {x : Operand} {args : Array Operand} {ts : Array TypeId} {b : Builtin} (hx : x ∈ args.toList) : ev (only e (operandTmps (.call ⟨.builtin b, args, ts⟩))) x = ev e x :=
 ev_only (fun t ht => mem_operandTmps (by simp only [Op.operands, Call.operands, Array.toList_append, List.mem_append]; subst ht; exact .inr hx))
theorem d_apO {x y : Operand} {t u : TypeId} {dd : TypeDesc} {el : TypeId} {e' by_ n m : Nat} {z s v : AV} {cs new : List AV} {b : Nat} {fm : Option Nat} (hi : all[i]? = some ⟨some d, .call ⟨.builtin .append, #[x, y], #[t, u]⟩, ty, pos, aft, g⟩) (W : Wf h)
  (ht : P.underlying t = some (.slice el)) (hu : P.underlying u = some dd) (hd : isIntT dd = false) (hc : csz P el = some (e' + 1)) (hb : byt P el = some by_) (hz : zeroOf P el = some z) (hzl : z.cells.length = e' + 1)
  (hx : ev e x = some s) (hy : ev e y = some v) (O : Own h el (e' + 1) s n cs b fm) (hsrc : srcCells h (e' + 1) v = some (m, new)) (hnl : new.length = m * (e' + 1)) (h1 : ones new = true) (hr : (n + m) * (by_ + 1) ≤ 70368744177664)
  (hs : loudK P nt ⟨some d, .call ⟨.builtin .append, #[x, y], #[t, u]⟩, ty, pos, aft, g⟩ = true) (hw : wantedA all e ⟨some d, .call ⟨.builtin .append, #[x, y], #[t, u]⟩, ty, pos, aft, g⟩ = true)
  (k : ∀ s' H' b' fm', Own H' el (e' + 1) s' (n + m) (cs ++ new) b' fm' → Wf H' → h.n ≤ H'.n → H'.n ≤ h.n + 1 → (b' = b ∨ b' = h.n) → (fm' = none ∨ fm' = fm ∨ fm' = some h.n) → Keeps h H' b fm → recheck P (ms.getD i 0) H' ls = true ∧ WD P orc nt all ms il ls K ⟨e.set d s', H', ds⟩) :
  WD P orc nt all ms (i :: il) ls K ⟨e, h, ds⟩ := by
 obtain ⟨s', H', b', fm', a1, a2, a3, a4, a5, a6, a7, a8⟩ := append_own (by_ := by_) W O (Nat.le_add_left 1 e') (room_of hr) hnl h1
 obtain ⟨k1, k2⟩ := k s' H' b' fm' a2 a3 a4 a5 a6 a7 a8
 refine d_loud hi hs hw ?_ k1 k2
 have h3 : Nat.beq z.cells.length (e' + 1) = true := by rw [hzl]; exact Nat.beq_refl _
 have e1 : ev (only e (operandTmps (.call ⟨.builtin .append, #[x, y], #[t, u]⟩))) x = ev e x := ev_app (by simp)
 have e2 : ev (only e (operandTmps (.call ⟨.builtin .append, #[x, y], #[t, u]⟩))) y = ev e y := ev_app (by simp)
 simp only [loudOp, doCall, doBuiltin, doAppend, ht, hu, e1, e2, hx, hy, hd, appendBy, hc, hb, hz, h3, hsrc, h1, a1, valH]
theorem d_apN {x y : Operand} {t u : TypeId} {dd : TypeDesc} {el : TypeId} {e' by_ m : Nat} {z v : AV} {new : List AV} (hi : all[i]? = some ⟨some d, .call ⟨.builtin .append, #[x, y], #[t, u]⟩, ty, pos, aft, g⟩) (W : Wf h)
  (ht : P.underlying t = some (.slice el)) (hu : P.underlying u = some dd) (hd : isIntT dd = false) (hc : csz P el = some (e' + 1)) (hb : byt P el = some by_) (hz : zeroOf P el = some z) (hzl : z.cells.length = e' + 1)
  (hx : ev e x = some .nils) (hy : ev e y = some v) (hsrc : srcCells h (e' + 1) v = some (m, new)) (hnl : new.length = m * (e' + 1)) (h1 : ones new = true) (hm : 1 ≤ m) (hr : m * (by_ + 1) ≤ 70368744177664)
  (hs : loudK P nt ⟨some d, .call ⟨.builtin .append, #[x, y], #[t, u]⟩, ty, pos, aft, g⟩ = true) (hw : wantedA all e ⟨some d, .call ⟨.builtin .append, #[x, y], #[t, u]⟩, ty, pos, aft, g⟩ = true)
  (k : ∀ s' H', Own H' el (e' + 1) s' m new h.n none → Wf H' → H'.n = h.n + 1 → Ext h H' → recheck P (ms.getD i 0) H' ls = true ∧ WD P orc nt all ms il ls K ⟨e.set d s', H', ds⟩) :
  WD P orc nt all ms (i :: il) ls K ⟨e, h, ds⟩ := by
 have hpush : isRowFam (.row new el true none) = none := rfl
 obtain ⟨k1, k2⟩ := k (freshSl h.n m m) (h.push (.row new el true none)) ⟨0, m, new, true, none, rfl, at_push_eq rfl (by simp), rfl, by omega, by rw [List.drop_zero, List.take_of_length_le (by omega)], Nat.le_refl _, by omega⟩ (Ext.push W hpush).wf rfl (Ext.push W hpush)
 refine d_loud hi hs hw ?_ k1 k2
 have h3 : Nat.beq z.cells.length (e' + 1) = true := by rw [hzl]; exact Nat.beq_refl _
 have hm0 : Nat.beq m 0 = false := by cases m with | zero => omega | succ _ => rfl
 have hrm : room m by_ = true := room_of hr
 have e1 : ev (only e (operandTmps (.call ⟨.builtin .append, #[x, y], #[t, u]⟩))) x = ev e x := ev_app (by simp)
 have e2 : ev (only e (operandTmps (.call ⟨.builtin .append, #[x, y], #[t, u]⟩))) y = ev e y := ev_app (by simp)
 simp only [loudOp, doCall, doBuiltin, doAppend, ht, hu, e1, e2, hx, hy, hd, appendBy, hc, hb, hz, h3, hsrc, h1, appendA, appendNil, hm0, hrm, newRowA, valH]
theorem d_apG {x y : Operand} {t u : TypeId} {dd : TypeDesc} {el : TypeId} {e' by_ n m : Nat} {z s v : AV} {cs new : List AV} {b : Nat} {fm : Option Nat} (hi : all[i]? = some ⟨some d, .call ⟨.builtin .append, #[x, y], #[t, u]⟩, ty, pos, aft, g⟩) (W : Wf h)
  (ht : P.underlying t = some (.slice el)) (hu : P.underlying u = some dd) (hd : isIntT dd = false) (hc : csz P el = some (e' + 1)) (hb : byt P el = some by_) (hz : zeroOf P el = some z) (hzl : z.cells.length = e' + 1)
  (hx : ev e x = some s) (hy : ev e y = some v) (O : (n = 0 ∧ s = .nils ∧ cs = []) ∨ Own h el (e' + 1) s n cs b fm) (hsrc : srcCells h (e' + 1) v = some (m, new)) (hnl : new.length = m * (e' + 1)) (h1 : ones new = true) (hm : 1 ≤ m) (hr : (n + m) * (by_ + 1) ≤ 70368744177664)
  (hs : loudK P nt ⟨some d, .call ⟨.builtin .append, #[x, y], #[t, u]⟩, ty, pos, aft, g⟩ = true) (hw : wantedA all e ⟨some d, .call ⟨.builtin .append, #[x, y], #[t, u]⟩, ty, pos, aft, g⟩ = true)
  (k : ∀ s' H' b' fm', Own H' el (e' + 1) s' (n + m) (cs ++ new) b' fm' → Wf H' → h.n ≤ H'.n → ((b' = b ∧ s ≠ .nils) ∨ b' = h.n) → (fm' = none ∨ fm' = fm ∨ fm' = some h.n) → Keeps h H' b fm → (s = .nils → Ext h H') → recheck P (ms.getD i 0) H' ls = true ∧ WD P orc nt all ms il ls K ⟨e.set d s', H', ds⟩) :
  WD P orc nt all ms (i :: il) ls K ⟨e, h, ds⟩ := by
 rcases O with ⟨rfl, rfl, rfl⟩ | O
 ·exact d_apN hi W ht hu hd hc hb hz hzl hx hy hsrc hnl h1 hm (by simpa using hr) hs hw fun s' H' O W' hn X => k s' H' h.n none (by simpa using O) W' (by omega) (.inr rfl) (.inl rfl) (fun c o ho _ _ => X.keep _ _ ho) (fun _ => X)
 ·exact d_apO hi W ht hu hd hc hb hz hzl hx hy O hsrc hnl h1 hr hs hw fun s' H' b' fm' O' W' a b p q Kp => k s' H' b' fm' O' W' a (p.imp (fun h => ⟨h, by obtain ⟨off, cap, h, _⟩ := O.read; rw [h]; simp⟩) id) q Kp (fun hn => by obtain ⟨off, cap, h, _⟩ := O.read; rw [hn] at h; cases h)
end
section
variable {P : Program} {e : Env} {h : AH} {t : TypeId} {x : Operand} {l : Loc} {o n c : Nat} {k k' : IntKind}
theorem r_sliceLH {el : TypeId} {s i j : Nat} {lo hi : Operand} (ht : P.underlying t = some (.slice el)) (hs : csz P el = some (s + 1)) (hx : ev e x = some (.sl l o n c)) (hl : ev e lo = some (.int k (i : Int))) (hh : ev e hi = some (.int k' (j : Int))) (hij : i ≤ j) (hj : j ≤ c) (hc : cutOk h el l = true) :
  readOp P e h (.slice t x (some lo) (some hi) none) = some (.sl l (o + i * (s + 1)) (j - i) (c - i)) := by
 have e1 : bound (.int k' (Int.ofNat j)) c = some j := by simp only [bound, bleT hj]
 have e3 : bound (.int k (Int.ofNat i)) j = some i := by simp only [bound, bleT hij]
 have e2 : Nat.ble i c = true := bleT (by omega)
 simp only [readOp, doSlice, ht, hx, hl, hh, optEv, Option.map_some, sliceBy, hs, sliceSl, optBound, hc, Option.isSome_none, Bool.false_and, highOf]
 show (match bound (AV.int k' (Int.ofNat j)) c with | none => none | some b => match bound (AV.int k (Int.ofNat i)) b with | none => none | some a => match Nat.ble a c with | true => some (AV.sl l (o + a * (s + 1)) (b - a) (c - a)) | false => none) = _
 simp only [e1, e2, e3]
end
end Go.VI
