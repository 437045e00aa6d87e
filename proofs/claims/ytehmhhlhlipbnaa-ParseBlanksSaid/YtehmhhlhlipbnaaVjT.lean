/-
 More rules: s[i:], an empty slice, append onto nil, a closure.
-/
import Derived.Test.YtehmhhlhlipbnaaVj
import Derived.Test.YtehmhhlhlipbnaaVjV
set_option autoImplicit false
set_option linter.unusedVariables false
set_option linter.unusedSimpArgs false
namespace Go.VI
section
variable {P : Program} {e : Env} {h : AH} {t : TypeId} {x : Operand} {l : Loc} {o n c : Nat} {k : IntKind}
theorem r_sliceFrom {el : TypeId} {s j : Nat} {m : Operand} (ht : P.underlying t = some (.slice el)) (hs : csz P el = some (s + 1)) (hx : ev e x = some (.sl l o n c)) (hy : ev e m = some (.int k (j : Int))) (hj : j ≤ n) (hnc : n ≤ c) (hc : cutOk h el l = true) :
  readOp P e h (.slice t x (some m) none none) = some (.sl l (o + j * (s + 1)) (n - j) (c - j)) := by
 have e1 : bound (.int k (Int.ofNat j)) n = some j := by simp only [bound, bleT hj]
 have e2 : Nat.ble j c = true := bleT (by omega)
 simp only [readOp, doSlice, ht, hx, hy, optEv, Option.map_some, sliceBy, hs, sliceSl, optBound, hc, Option.isSome_none, Bool.false_and, highOf, bleT hnc]
 show (match bound (AV.int k (Int.ofNat j)) n with | none => none | some a => match Nat.ble a c with | true => some (AV.sl l (o + a * (s + 1)) (n - a) (c - a)) | false => none) = _
 simp only [e1, e2]
theorem a_build0 {el : TypeId} {s : Nat} {z : AV} (ht : P.underlying t = some (.slice el)) (hs : csz P el = some (s + 1)) (hz : zeroOf P el = some z) (hzl : z.cells.length = s + 1) : allocOp P e (.buildSlice t 0 #[]) = some (.row [] el false none, fun b => freshSl b 0 0) := by
 have h2 : Nat.beq z.cells.length (s + 1) = true := by rw [hzl]; exact Nat.beq_refl _
 have h1 : Nat.ble (0 * (s + 1)) 16777216 = true := bleT (by omega)
 have h3 : reps 0 z.cells = [] := by simp [reps]
 simp only [allocOp, doBuildSlice, ht, evParts, buildSl1, hs, hz, buildSl, h1, h2, h3, fillA]
theorem r_makeFunc {f : Fn} {fs cs : Array Operand} {a b : List AV} (h1 : evs e fs.toList = some a) (h2 : evs e cs.toList = some b) : readOp P e h (.makeFunc f fs cs) = some (.fn f a b) := by
 simp only [readOp, doFunc, h1, h2]
end
section
variable {P : Program} {orc : CallF} {nt : Nat} {all l : List Oper} {K : St → Prop} {e : Env} {h : AH} {ds : List ADef}
variable {d : Nat} {ty : TypeId} {pos : String} {aft : Array Edge} {g : Option (Nat × Bool)}
/-- append onto nil -/
theorem o_apN {x y : Operand} {t u : TypeId} {dd : TypeDesc} {el : TypeId} {e' by_ m : Nat} {z v : AV} {new : List AV} (W : Wf h)
  (ht : P.underlying t = some (.slice el)) (hu : P.underlying u = some dd) (hd : isIntT dd = false) (hc : csz P el = some (e' + 1)) (hb : byt P el = some by_) (hz : zeroOf P el = some z) (hzl : z.cells.length = e' + 1)
  (hx : ev e x = some .nils) (hy : ev e y = some v) (hsrc : srcCells h (e' + 1) v = some (m, new)) (hnl : new.length = m * (e' + 1)) (h1 : ones new = true) (hm : 1 ≤ m) (hr : m * (by_ + 1) ≤ 70368744177664)
  (hs : loudK P nt ⟨some d, .call ⟨.builtin .append, #[x, y], #[t, u]⟩, ty, pos, aft, g⟩ = true) (hw : wantedA all e ⟨some d, .call ⟨.builtin .append, #[x, y], #[t, u]⟩, ty, pos, aft, g⟩ = true)
  (k : ∀ s' H', Own H' el (e' + 1) s' m new h.n none → Wf H' → H'.n = h.n + 1 → Ext h H' → WO P orc nt all l K ⟨e.set d s', H', ds⟩) :
  WO P orc nt all (⟨some d, .call ⟨.builtin .append, #[x, y], #[t, u]⟩, ty, pos, aft, g⟩ :: l) K ⟨e, h, ds⟩ := by
 have hpush : isRowFam (.row new el true none) = none := rfl
 refine o_loud (o := ⟨some d, .call ⟨.builtin .append, #[x, y], #[t, u]⟩, ty, pos, aft, g⟩) (v := freshSl h.n m m) (h' := h.push (.row new el true none)) hs hw ?_
  (k (freshSl h.n m m) (h.push (.row new el true none)) ⟨0, m, new, true, none, rfl, at_push_eq rfl (by simp), rfl, by omega, by rw [List.drop_zero, List.take_of_length_le (by omega)], Nat.le_refl _, by omega⟩ (Ext.push W hpush).wf rfl (Ext.push W hpush))
 have h3 : Nat.beq z.cells.length (e' + 1) = true := by rw [hzl]; exact Nat.beq_refl _
 have hm0 : Nat.beq m 0 = false := by cases m with | zero => omega | succ _ => rfl
 have hrm : room m by_ = true := room_of hr
 simp only [loudOp, doCall, doBuiltin, doAppend, ht, hu, hx, hy, hd, appendBy, hc, hb, hz, h3, hsrc, h1, appendA, appendNil, hm0, hrm, newRowA, valH]
end

end Go.VI
namespace Go.VI
theorem not_f {b : Bool} (h : (!b) = false) : b = true := by cases b <;> first | rfl | cases h
theorem not_t {b : Bool} (h : (!b) = true) : b = false := by cases b <;> first | rfl | cases h
structure ND where
 k : Int
 at_ : Int
 ks : List Int
 nm : List UInt8
 n : Int
inductive NA (H : AH) : ND → List AV → Prop where
 | mk (k a : Int) (ks : List Int) (nm : List UInt8) (n : Int) (s : AV) (h : SI H ks s) : NA H ⟨k, a, ks, nm, n⟩ [.int .i64 k, .int .i64 a, s, .str nm, .int .i64 n]
inductive NL (H : AH) : List ND → List AV → Prop where
 | nil : NL H [] []
 | cons (v : ND) (l : List ND) (a cs : List AV) (h : NA H v a) (k : NL H l cs) : NL H (v :: l) (a ++ cs)
inductive NS (H : AH) : List ND → AV → Prop where
 | nil : NS H [] .nils
 | sl (l : List ND) (loc : Loc) (off cap : Nat) (cs : List AV) (hr : H.read loc off (l.length * 5) = some cs) (hc : l.length ≤ cap) (hb : l.length ≤ 4611686018427387904) (h : NL H l cs) : NS H l (.sl loc off l.length cap)
section
variable {H H' : AH}
theorem SI.one {l : List Int} {s : AV} (h : SI H l s) : s.one = true := by cases h <;> rfl
theorem NA.inv {v : ND} {a : List AV} (h : NA H v a) : ∃ s, a = [.int .i64 v.k, .int .i64 v.at_, s, .str v.nm, .int .i64 v.n] ∧ SI H v.ks s := by
 cases h with | mk k a ks nm n s h => exact ⟨s, rfl, h⟩
theorem NA.of {v : ND} {s : AV} (h : SI H v.ks s) : NA H v [.int .i64 v.k, .int .i64 v.at_, s, .str v.nm, .int .i64 v.n] := .mk v.k v.at_ v.ks v.nm v.n s h
theorem NA.len {v : ND} {a : List AV} (h : NA H v a) : a.length = 5 := by cases h; rfl
theorem NA.ones {v : ND} {a : List AV} (h : NA H v a) : VI.ones a = true := by
 cases h with | mk k a ks nm n s h => cases h <;> rfl
theorem NA.ext (E : Ext H H') {v : ND} {a : List AV} (h : NA H v a) : NA H' v a := by
 cases h with | mk k a ks nm n s h => exact .mk _ _ _ _ _ _ (h.ext E)
theorem NL.len {l : List ND} {cs : List AV} (h : NL H l cs) : cs.length = l.length * 5 := by
 induction h with
 | nil => rfl
 | cons v l a cs h k ih => simp [h.len, ih]; omega
theorem NL.ext (E : Ext H H') {l : List ND} {cs : List AV} (h : NL H l cs) : NL H' l cs := by
 induction h with
 | nil => exact .nil
 | cons v l a cs h k ih => exact .cons _ _ _ _ (h.ext E) ih
theorem NL.get {l : List ND} {cs : List AV} (h : NL H l cs) {i : Nat} (hi : i < l.length) : NA H l[i] ((cs.drop (i * 5)).take 5) := by
 induction h generalizing i with
 | nil => simp at hi
 | cons v l a cs h k ih =>
  cases i with
  | zero => simp only [Nat.zero_mul, List.drop_zero, List.getElem_cons_zero]; rw [List.take_append_of_le_length (by rw [h.len]; omega), List.take_of_length_le (by rw [h.len]; omega)]; exact h
  | succ i =>
   have := ih (i := i) (by simpa using hi)
   rw [List.drop_append, List.drop_of_length_le (by rw [h.len]; omega), List.nil_append, h.len, show (i + 1) * 5 - 5 = i * 5 by omega]
   exact this
theorem NS.lenOf {l : List ND} {s : AV} (h : NS H l s) : VI.lenOf s = some l.length := by cases h <;> rfl
theorem NS.bound {l : List ND} {s : AV} (h : NS H l s) : l.length ≤ 4611686018427387904 := by
 cases h with
 | nil => simp
 | sl _ _ _ _ _ _ _ hb _ => exact hb
theorem NS.one {l : List ND} {s : AV} (h : NS H l s) : s.one = true := by cases h <;> rfl
theorem NS.ext (E : Ext H H') {l : List ND} {s : AV} (h : NS H l s) : NS H' l s := by
 cases h with
 | nil => exact .nil
 | sl _ loc off cap cs hr hc hb h => exact .sl l loc off cap cs (E.read hr) hc hb (h.ext E)
/-- An element is read. -/
theorem NS.get {l : List ND} {s : AV} (h : NS H l s) {i : Nat} (hi : i < l.length) : ∃ loc off cap sk, s = .sl loc off l.length cap ∧ H.read loc (off + i * 5) 5 = some [.int .i64 l[i].k, .int .i64 l[i].at_, sk, .str l[i].nm, .int .i64 l[i].n] ∧ SI H l[i].ks sk := by
 cases h with
 | nil => simp at hi
 | sl _ loc off cap cs hr hc hb h =>
  obtain ⟨sk, h1, h2⟩ := (h.get hi).inv
  have := read_part hr (o := i * 5) (m := 5) (by omega)
  rw [h1] at this
  exact ⟨loc, off, cap, sk, rfl, this, h2⟩
end
section
variable {P : Program} {e : Env} {h : AH} {x y : Operand} {t t' : TypeId} {a b : List UInt8}
theorem eqS_dec (a b : List UInt8) : eqS a b = decide (a = b) := eqS_eq a b
theorem r_eqS (hu : P.underlying t = some .string) (hx : ev e x = some (.str a)) (hy : ev e y = some (.str b)) : readOp P e h (.binOp .eql t x y t') = some (.bool (decide (a = b))) := by
 simp only [readOp, doBin, hx, hy, binA, strOp, eqS_dec]
theorem r_neS (hu : P.underlying t = some .string) (hx : ev e x = some (.str a)) (hy : ev e y = some (.str b)) : readOp P e h (.binOp .neq t x y t') = some (.bool (!decide (a = b))) := by
 simp only [readOp, doBin, hx, hy, binA, strOp, eqS_dec]
theorem r_idxS {j : Nat} {k : IntKind} {c : UInt8} (hu : P.underlying t = some .string) (hx : ev e x = some (.str a)) (hy : ev e y = some (.int k (j : Int))) (hj : a[j]? = some c) : readOp P e h (.index t x y) = some (.int .u8 (c.toNat : Int)) := by
 simp only [readOp, doIndex, hu, hx, hy]
 show idxStr a (Int.ofNat j) = _
 simp only [idxStr, hj, Option.map_some]
end
end Go.VI
namespace Go.VI
section
variable {P : Program} {orc : CallF} {nt : Nat} {all l : List Oper} {K : St → Prop} {e : Env} {h : AH} {ds : List ADef}
variable {d : Nat} {ty : TypeId} {pos : String} {aft : Array Edge} {g : Option (Nat × Bool)}
variable {ms : List Nat} {ls : List Look} {il : List Nat} {i : Nat}
theorem ev_app {x : Operand} {args : Array Operand} {ts : Array TypeId} {b : Builtin} (hx : x ∈ args.toList) : ev (only e (operandTmps (.call ⟨.builtin b, args, ts⟩))) x = ev e x :=
 ev_only (fun t ht => mem_operandTmps (by simp only [Op.operands, Call.operands, Array.toList_append, List.mem_append]; subst ht; exact .inr hx))
theorem d_apO {x y : Operand} {t u : TypeId} {dd : TypeDesc} {el : TypeId} {e' by_ n m : Nat} {z s v : AV} {cs new : List AV} {b : Nat} {fm : Option Nat} (hi : all[i]? = some ⟨some d, .call ⟨.builtin .append, #[x, y], #[t, u]⟩, ty, pos, aft, g⟩) (W : Wf h)
  (ht : P.underlying t = some (.slice el)) (hu : P.underlying u = some dd) (hd : isIntT dd = false) (hc : csz P el = some (e' + 1)) (hb : byt P el = some by_) (hz : zeroOf P el = some z) (hzl : z.cells.length = e' + 1)
  (hx : ev e x = some s) (hy : ev e y = some v) (O : Own h el (e' + 1) s n cs b fm) (hsrc : srcCells h (e' + 1) v = some (m, new)) (hnl : new.length = m * (e' + 1)) (h1 : ones new = true) (hr : (n + m) * (by_ + 1) ≤ 70368744177664)
  (hs : loudK P nt ⟨some d, .call ⟨.builtin .append, #[x, y], #[t, u]⟩, ty, pos, aft, g⟩ = true) (hw : wantedA all e ⟨some d, .call ⟨.builtin .append, #[x, y], #[t, u]⟩, ty, pos, aft, g⟩ = true)
  (k : ∀ s' H' b' fm', Own H' el (e' + 1) s' (n + m) (cs ++ new) b' fm' → Wf H' → h.n ≤ H'.n → H'.n ≤ h.n + 1 → (b' = b ∨ b' = h.n) → (fm' = none ∨ fm' = fm ∨ fm' = some h.n) → Keeps h H' b fm → recheck P (ms.getD i 0) H' ls = true ∧ WD P orc nt all ms il ls K ⟨e.set d s', H', ds⟩) :
  WD P orc nt all ms (i :: il) ls K ⟨e, h, ds⟩ := by
 obtain ⟨s', H', b', fm', a1, a2, a3, a4, a5, a6, a7, a8⟩ := append_own (by_ := by_) W O (Nat.le_add_left 1 e') (room_of hr) hnl h1
 obtain ⟨k1, k2⟩ := k s' H' b' fm' a2 a3 a4 a5 a6 a7 a8
 refine d_loud hi hs hw ?_ k1 k2
 have h3 : Nat.beq z.cells.length (e' + 1) = true := by rw [hzl]; exact Nat.beq_refl _
 have e1 : ev (only e (operandTmps (.call ⟨.builtin .append, #[x, y], #[t, u]⟩))) x = ev e x := ev_app (by simp)
 have e2 : ev (only e (operandTmps (.call ⟨.builtin .append, #[x, y], #[t, u]⟩))) y = ev e y := ev_app (by simp)
 simp only [loudOp, doCall, doBuiltin, doAppend, ht, hu, e1, e2, hx, hy, hd, appendBy, hc, hb, hz, h3, hsrc, h1, a1, valH]
theorem d_apN {x y : Operand} {t u : TypeId} {dd : TypeDesc} {el : TypeId} {e' by_ m : Nat} {z v : AV} {new : List AV} (hi : all[i]? = some ⟨some d, .call ⟨.builtin .append, #[x, y], #[t, u]⟩, ty, pos, aft, g⟩) (W : Wf h)
  (ht : P.underlying t = some (.slice el)) (hu : P.underlying u = some dd) (hd : isIntT dd = false) (hc : csz P el = some (e' + 1)) (hb : byt P el = some by_) (hz : zeroOf P el = some z) (hzl : z.cells.length = e' + 1)
  (hx : ev e x = some .nils) (hy : ev e y = some v) (hsrc : srcCells h (e' + 1) v = some (m, new)) (hnl : new.length = m * (e' + 1)) (h1 : ones new = true) (hm : 1 ≤ m) (hr : m * (by_ + 1) ≤ 70368744177664)
  (hs : loudK P nt ⟨some d, .call ⟨.builtin .append, #[x, y], #[t, u]⟩, ty, pos, aft, g⟩ = true) (hw : wantedA all e ⟨some d, .call ⟨.builtin .append, #[x, y], #[t, u]⟩, ty, pos, aft, g⟩ = true)
  (k : ∀ s' H', Own H' el (e' + 1) s' m new h.n none → Wf H' → H'.n = h.n + 1 → Ext h H' → recheck P (ms.getD i 0) H' ls = true ∧ WD P orc nt all ms il ls K ⟨e.set d s', H', ds⟩) :
  WD P orc nt all ms (i :: il) ls K ⟨e, h, ds⟩ := by
 have hpush : isRowFam (.row new el true none) = none := rfl
 obtain ⟨k1, k2⟩ := k (freshSl h.n m m) (h.push (.row new el true none)) ⟨0, m, new, true, none, rfl, at_push_eq rfl (by simp), rfl, by omega, by rw [List.drop_zero, List.take_of_length_le (by omega)], Nat.le_refl _, by omega⟩ (Ext.push W hpush).wf rfl (Ext.push W hpush)
 refine d_loud hi hs hw ?_ k1 k2
 have h3 : Nat.beq z.cells.length (e' + 1) = true := by rw [hzl]; exact Nat.beq_refl _
 have hm0 : Nat.beq m 0 = false := by cases m with | zero => omega | succ _ => rfl
 have hrm : room m by_ = true := room_of hr
 have e1 : ev (only e (operandTmps (.call ⟨.builtin .append, #[x, y], #[t, u]⟩))) x = ev e x := ev_app (by simp)
 have e2 : ev (only e (operandTmps (.call ⟨.builtin .append, #[x, y], #[t, u]⟩))) y = ev e y := ev_app (by simp)
 simp only [loudOp, doCall, doBuiltin, doAppend, ht, hu, e1, e2, hx, hy, hd, appendBy, hc, hb, hz, h3, hsrc, h1, appendA, appendNil, hm0, hrm, newRowA, valH]
theorem d_apG {x y : Operand} {t u : TypeId} {dd : TypeDesc} {el : TypeId} {e' by_ n m : Nat} {z s v : AV} {cs new : List AV} {b : Nat} {fm : Option Nat} (hi : all[i]? = some ⟨some d, .call ⟨.builtin .append, #[x, y], #[t, u]⟩, ty, pos, aft, g⟩) (W : Wf h)
  (ht : P.underlying t = some (.slice el)) (hu : P.underlying u = some dd) (hd : isIntT dd = false) (hc : csz P el = some (e' + 1)) (hb : byt P el = some by_) (hz : zeroOf P el = some z) (hzl : z.cells.length = e' + 1)
  (hx : ev e x = some s) (hy : ev e y = some v) (O : (n = 0 ∧ s = .nils ∧ cs = []) ∨ Own h el (e' + 1) s n cs b fm) (hsrc : srcCells h (e' + 1) v = some (m, new)) (hnl : new.length = m * (e' + 1)) (h1 : ones new = true) (hm : 1 ≤ m) (hr : (n + m) * (by_ + 1) ≤ 70368744177664)
  (hs : loudK P nt ⟨some d, .call ⟨.builtin .append, #[x, y], #[t, u]⟩, ty, pos, aft, g⟩ = true) (hw : wantedA all e ⟨some d, .call ⟨.builtin .append, #[x, y], #[t, u]⟩, ty, pos, aft, g⟩ = true)
  (k : ∀ s' H' b' fm', Own H' el (e' + 1) s' (n + m) (cs ++ new) b' fm' → Wf H' → h.n ≤ H'.n → ((b' = b ∧ s ≠ .nils) ∨ b' = h.n) → (fm' = none ∨ fm' = fm ∨ fm' = some h.n) → Keeps h H' b fm → (s = .nils → Ext h H') → recheck P (ms.getD i 0) H' ls = true ∧ WD P orc nt all ms il ls K ⟨e.set d s', H', ds⟩) :
  WD P orc nt all ms (i :: il) ls K ⟨e, h, ds⟩ := by
 rcases O with ⟨rfl, rfl, rfl⟩ | O
 ·exact d_apN hi W ht hu hd hc hb hz hzl hx hy hsrc hnl h1 hm (by simpa using hr) hs hw fun s' H' O W' hn X => k s' H' h.n none (by simpa using O) W' (by omega) (.inr rfl) (.inl rfl) (fun c o ho _ _ => X.keep _ _ ho) (fun _ => X)
 ·exact d_apO hi W ht hu hd hc hb hz hzl hx hy O hsrc hnl h1 hr hs hw fun s' H' b' fm' O' W' a b p q Kp => k s' H' b' fm' O' W' a (p.imp (fun h => ⟨h, by obtain ⟨off, cap, h, _⟩ := O.read; rw [h]; simp⟩) id) q Kp (fun hn => by obtain ⟨off, cap, h, _⟩ := O.read; rw [hn] at h; cases h)
end
section
variable {P : Program} {e : Env} {h : AH} {t : TypeId} {x : Operand} {l : Loc} {o n c : Nat} {k k' : IntKind}
theorem r_sliceLH {el : TypeId} {s i j : Nat} {lo hi : Operand} (ht : P.underlying t = some (.slice el)) (hs : csz P el = some (s + 1)) (hx : ev e x = some (.sl l o n c)) (hl : ev e lo = some (.int k (i : Int))) (hh : ev e hi = some (.int k' (j : Int))) (hij : i ≤ j) (hj : j ≤ c) (hc : cutOk h el l = true) :
  readOp P e h (.slice t x (some lo) (some hi) none) = some (.sl l (o + i * (s + 1)) (j - i) (c - i)) := by
 have e1 : bound (.int k' (Int.ofNat j)) c = some j := by simp only [bound, bleT hj]
 have e3 : bound (.int k (Int.ofNat i)) j = some i := by simp only [bound, bleT hij]
 have e2 : Nat.ble i c = true := bleT (by omega)
 simp only [readOp, doSlice, ht, hx, hl, hh, optEv, Option.map_some, sliceBy, hs, sliceSl, optBound, hc, Option.isSome_none, Bool.false_and, highOf]
 show (match bound (AV.int k' (Int.ofNat j)) c with | none => none | some b => match bound (AV.int k (Int.ofNat i)) b with | none => none | some a => match Nat.ble a c with | true => some (AV.sl l (o + a * (s + 1)) (b - a) (c - a)) | false => none) = _
 simp only [e1, e2, e3]
end
end Go.VI
namespace Go.VI
section
variable {P : Program} {e : Env} {h : AH} {x y : Operand} {k : IntKind} {a b : Int}
theorem r_max {ts : Array TypeId} (hx : ev e x = some (.int k a)) (hy : ev e y = some (.int k b)) : readOp P e h (.call ⟨.builtin .max, #[x, y], ts⟩) = some (.int k (max a b)) := by
 simp only [readOp, readCall, readBuiltin, doMax, evs, hx, hy, maxA, ltI_eq]
 congr 2
 by_cases c : a < b
 ·rw [decide_eq_true c, if_pos rfl]; omega
 ·rw [decide_eq_false c]; simp; omega
end
section
variable {H0 H H' H'' : AH} {l : List Int} {s : AV}
def GI (H0 H : AH) (l : List Int) (s : AV) : Prop := (l = [] ∧ s = .nils) ∨ (1 ≤ l.length ∧ ∃ b f, New H0 b f ∧ Own H 3 1 s l.length (l.map (AV.int .i64)) b f)
theorem GI.ext (G : GI H0 H l s) (E : Ext H H') : GI H0 H' l s := by
 rcases G with G | ⟨h, b, f, N, O⟩
 ·exact .inl G
 ·exact .inr ⟨h, b, f, N, O.ext E⟩
theorem GI.put (G : GI H0 H l s) (W : Wf H) (X : Ext H H') {c : Nat} (hc : H.n ≤ c) (K : Keeps H' H'' c none) : GI H0 H'' l s := by
 rcases G with G | ⟨h, b, f, N, O⟩
 ·exact .inl G
 ·exact .inr ⟨h, b, f, N, (O.ext X).keep fun x hx _ => K.own hx (by have := O.lt W; omega)⟩
theorem GI.si (G : GI H0 H l s) (hb : l.length ≤ 4611686018427387904) : SI H l s := by
 rcases G with ⟨rfl, rfl⟩ | ⟨h, b, f, N, O⟩
 ·exact .nil
 ·obtain ⟨off, cap, rfl, hc, hr⟩ := O.read
  exact .sl l (.mt b) off cap (by rw [Nat.mul_one] at hr; exact hr) hc hb
end
section
variable {P : Program} {orc : CallF} {nt : Nat} {all l : List Oper} {K : St → Prop} {e : Env} {H0 h : AH} {ds : List ADef}
variable {d : Nat} {ty : TypeId} {pos : String} {aft : Array Edge} {g : Option (Nat × Bool)}
theorem o_apG {x y : Operand} {t u : TypeId} {dd : TypeDesc} {by_ b : Nat} {z s : AV} {ns : List Int} {v : Int} (W0 : Wf H0) (W : Wf h) (E : Ext H0 h)
  (ht : P.underlying t = some (.slice 3)) (hu : P.underlying u = some dd) (hd : isIntT dd = false) (hc : csz P 3 = some 1) (hb : byt P 3 = some by_) (hz : zeroOf P 3 = some z) (hzl : z.cells.length = 1)
  (hx : ev e x = some s) (hy : ev e y = some (freshSl b 1 1)) (G : GI H0 h ns s) (ha : h.at b = some (.row [.int .i64 v] 3 false none)) (hr : (ns.length + 1) * (by_ + 1) ≤ 70368744177664)
  (hs : loudK P nt ⟨some d, .call ⟨.builtin .append, #[x, y], #[t, u]⟩, ty, pos, aft, g⟩ = true) (hw : wantedA all e ⟨some d, .call ⟨.builtin .append, #[x, y], #[t, u]⟩, ty, pos, aft, g⟩ = true)
  (k : ∀ s' H', GI H0 H' (ns ++ [v]) s' → Wf H' → Ext H0 H' → WO P orc nt all l K ⟨e.set d s', H', ds⟩) :
  WO P orc nt all (⟨some d, .call ⟨.builtin .append, #[x, y], #[t, u]⟩, ty, pos, aft, g⟩ :: l) K ⟨e, h, ds⟩ := by
 rcases G with ⟨rfl, rfl⟩ | ⟨hn, c, f, N, O⟩
 ·refine o_apN W ht hu hd hc hb hz hzl hx hy (src_fresh (n := 1) ha rfl) rfl rfl (Nat.le_refl _) (by simpa using hr) hs hw fun s' H' O W' hn X => k s' H' (.inr ⟨by simp, h.n, none, ⟨E.n, fun f hf => by cases hf⟩, O⟩) W' (E.trans X)
 ·refine o_ap W ht hu hd hc hb hz hzl hx hy O (src_fresh (n := 1) ha rfl) rfl rfl hr hs hw fun s' H' b' fm' O' W' hl hu' p q Kp => k s' H' (.inr ⟨by simp, b', fm', N.step E.n p q, ?_⟩) W' (Ext.keeps W0 E N Kp hl W')
  rw [List.length_append, List.length_singleton, List.map_append]; exact O'
end
section
variable {H : AH} {b t a : Nat} {fs : List Bool}
end
end Go.VI
namespace Go.VI
/-- a growing list: its block lies from H0 on, below n -/
def GX (H0 : AH) (n : Nat) (H : AH) (el : TypeId) (e : Nat) (cs : List AV) (len : Nat) (s : AV) : Prop :=
 (len = 0 ∧ cs = [] ∧ s = .nils) ∨ (1 ≤ len ∧ ∃ b f, New H0 b f ∧ b < n ∧ Own H el e s len cs b f)
section
variable {H0 H H' : AH} {n len e : Nat} {el : TypeId} {cs : List AV} {s : AV}
theorem GX.nil : GX H0 n H el e [] 0 .nils := .inl ⟨rfl, rfl, rfl⟩
theorem GX.ext (G : GX H0 n H el e cs len s) (E : Ext H H') : GX H0 n H' el e cs len s := by
 rcases G with G | ⟨h, b, f, N, hb, O⟩
 ·exact .inl G
 ·exact .inr ⟨h, b, f, N, hb, O.ext E⟩
theorem GX.put (G : GX H0 n H el e cs len s) {c : Nat} (K : Keeps H H' c none) (hc : n ≤ c) : GX H0 n H' el e cs len s := by
 rcases G with G | ⟨h, b, f, N, hb, O⟩
 ·exact .inl G
 ·exact .inr ⟨h, b, f, N, hb, O.keep fun x hx _ => K.own hx (by omega)⟩
theorem GX.cap (G : GX H0 n H el e cs len s) (W : Wf H) : GX H0 H.n H el e cs len s := by
 rcases G with G | ⟨h, b, f, N, hb, O⟩
 ·exact .inl G
 ·exact .inr ⟨h, b, f, N, O.lt W, O⟩
theorem GX.read (G : GX H0 n H el e cs len s) (h : 1 ≤ len) : ∃ loc off cap, s = .sl loc off len cap ∧ len ≤ cap ∧ H.read loc off (len * e) = some cs := by
 rcases G with ⟨h0, _⟩ | ⟨_, b, f, N, hb, O⟩
 ·omega
 ·obtain ⟨off, cap, h1, h2, h3⟩ := O.read
  exact ⟨.mt b, off, cap, h1, h2, h3⟩
theorem GX.length (G : GX H0 n H el e cs len s) : cs.length = len * e := by
 rcases G with ⟨rfl, rfl, _⟩ | ⟨_, b, f, N, hb, O⟩
 ·simp
 ·exact O.len
theorem GX.lenOf (G : GX H0 n H el e cs len s) : VI.lenOf s = some len := by
 rcases G with ⟨rfl, _, rfl⟩ | ⟨_, b, f, N, hb, O⟩
 ·rfl
 ·obtain ⟨off, cap, h1, _, _⟩ := O.read
  rw [h1]; rfl
theorem GX.one (G : GX H0 n H el e cs len s) : s.one = true := by
 rcases G with ⟨rfl, _, rfl⟩ | ⟨_, b, f, N, hb, O⟩
 ·rfl
 ·obtain ⟨off, cap, h1, _, _⟩ := O.read
  rw [h1]; rfl
end
section
variable {P : Program} {orc : CallF} {nt : Nat} {all l : List Oper} {K : St → Prop} {e : Env} {H0 h : AH} {ds : List ADef}
variable {d : Nat} {ty : TypeId} {pos : String} {aft : Array Edge} {g : Option (Nat × Bool)}
/-- the same, and what else is kept -/
theorem o_apF {x y : Operand} {t u el : TypeId} {dd : TypeDesc} {by_ b n e' len : Nat} {z s : AV} {cs new : List AV} (W0 : Wf H0) (W : Wf h) (E : Ext H0 h)
  (ht : P.underlying t = some (.slice el)) (hu : P.underlying u = some dd) (hd : isIntT dd = false) (hc : csz P el = some (e' + 1)) (hb : byt P el = some by_) (hz : zeroOf P el = some z) (hzl : z.cells.length = e' + 1)
  (hx : ev e x = some s) (hy : ev e y = some (freshSl b 1 1)) (G : GX H0 n h el (e' + 1) cs len s) (ha : h.at b = some (.row new el false none)) (hnl : new.length = e' + 1) (h1 : ones new = true) (hr : (len + 1) * (by_ + 1) ≤ 70368744177664)
  (hs : loudK P nt ⟨some d, .call ⟨.builtin .append, #[x, y], #[t, u]⟩, ty, pos, aft, g⟩ = true) (hw : wantedA all e ⟨some d, .call ⟨.builtin .append, #[x, y], #[t, u]⟩, ty, pos, aft, g⟩ = true)
  (k : ∀ s' H', GX H0 H'.n H' el (e' + 1) (cs ++ new) (len + 1) s' → Wf H' → Ext H0 H' → (∀ c, (n ≤ c ∨ c < H0.n) → ∀ x, h.at c = some x → (famid x = none ∨ ∀ f, famid x = some f → f < H0.n) → H'.at c = some x) → WO P orc nt all l K ⟨e.set d s', H', ds⟩) :
  WO P orc nt all (⟨some d, .call ⟨.builtin .append, #[x, y], #[t, u]⟩, ty, pos, aft, g⟩ :: l) K ⟨e, h, ds⟩ := by
 rcases G with ⟨rfl, rfl, rfl⟩ | ⟨hn, c, f, N, hcn, O⟩
 ·refine o_apN W ht hu hd hc hb hz hzl hx hy (src_fresh (n := 1) ha (by omega)) (by omega) h1 (Nat.le_refl _) (by simpa using hr) hs hw fun s' H' O W' hn X => k s' H' (.inr ⟨by simp, h.n, none, ⟨E.n, fun f hf => by cases hf⟩, O.lt W', by simpa using O⟩) W' (E.trans X) (fun c _ x hx _ => X.keep _ _ hx)
 ·refine o_ap W ht hu hd hc hb hz hzl hx hy O (src_fresh (n := 1) ha (by omega)) (by omega) h1 hr hs hw fun s' H' b' fm' O' W' hl hu' p q Kp => k s' H' (.inr ⟨by omega, b', fm', N.step E.n p q, O'.lt W', O'⟩) W' (Ext.keeps W0 E N Kp hl W') (fun q hq x hx hf => Kp q x hx (by have := N.1; omega) ?_)
  rcases hf with hf | hf
  ·exact .inl hf
  ·cases hfx : famid x with
   | none => exact .inl rfl
   | some fx =>
    refine .inr fun e => ?_
    have h1 := hf fx hfx
    have h2 := N.2 fx e.symm
    omega
end
end Go.VI
namespace Go.VI
inductive SB (H : AH) (el : TypeId) : List UInt8 → AV → Prop where
 | nil : SB H el [] .nils
 | sl (l : List UInt8) (loc : Loc) (off cap : Nat) (hr : H.read loc off l.length = some (bytesA l)) (hc : l.length ≤ cap) (hb : l.length ≤ 4611686018427387904) (hcut : cutOk H el loc = true) : SB H el l (.sl loc off l.length cap)
section
variable {P : Program} {H H' : AH} {el : TypeId} {l : List UInt8} {s : AV}
theorem bytesA_len (l : List UInt8) : (bytesA l).length = l.length := by simp [bytesA]
theorem bytesA_drop (l : List UInt8) (i n : Nat) : ((bytesA l).drop i).take n = bytesA ((l.drop i).take n) := by simp only [bytesA, ← List.map_drop, ← List.map_take]
theorem bytesOf_bytesA : ∀ l : List UInt8, bytesOf (bytesA l) = some l
 | [] => rfl
 | c :: r => by
  have ih := bytesOf_bytesA r
  have hc := c.toNat_lt
  simp only [bytesA, List.map_cons, bytesOf] at ih ⊢
  rw [ih]
  simp
theorem cutOk_ext (E : Ext H H') {loc : Loc} (h : cutOk H el loc = true) : cutOk H' el loc = true := by
 cases loc with
 | im _ => rfl
 | mt b =>
  simp only [cutOk] at h ⊢
  cases hb : H.at b with
  | none => rw [hb] at h; cases h
  | some x => rw [hb] at h; rw [E.keep _ _ hb]; exact h
theorem SB.ext (E : Ext H H') (h : SB H el l s) : SB H' el l s := by
 cases h with
 | nil => exact .nil
 | sl _ loc off cap hr hc hb hcut => exact .sl l loc off cap (E.read hr) hc hb (cutOk_ext E hcut)
theorem SB.lenOf (h : SB H el l s) : VI.lenOf s = some l.length := by cases h <;> rfl
theorem SB.bound (h : SB H el l s) : l.length ≤ 4611686018427387904 := by
 cases h with
 | nil => simp
 | sl _ _ _ _ _ _ hb _ => exact hb
theorem SB.one (h : SB H el l s) : s.one = true := by cases h <;> rfl
theorem SB.open_ (h : SB H el l s) (hn : 0 < l.length) : ∃ loc off cap, s = .sl loc off l.length cap ∧ H.read loc off l.length = some (bytesA l) ∧ l.length ≤ cap ∧ cutOk H el loc = true := by
 cases h with
 | nil => simp at hn
 | sl _ loc off cap hr hc hb hcut => exact ⟨loc, off, cap, rfl, hr, hc, hcut⟩
theorem bytes_at {loc : Loc} {off i : Nat} (hr : H.read loc off l.length = some (bytesA l)) (hi : i < l.length) : H.read loc (off + i * 1) 1 = some [.int .u8 ((l[i].toNat : Nat) : Int)] := by
 rw [read_part hr (by omega), Nat.mul_one, bytesA_drop, List.drop_eq_getElem_cons hi]; rfl
theorem SB.from_ {loc : Loc} {off cap j : Nat} (h : SB H el l (.sl loc off l.length cap)) (hj : j ≤ l.length) : SB H el (l.drop j) (.sl loc (off + j * 1) (l.length - j) (cap - j)) := by
 cases h with
 | sl _ _ _ _ hr hc hb hcut =>
  have e : l.length - j = (l.drop j).length := by simp
  rw [e]
  refine .sl _ _ _ _ ?_ (by simp; omega) (by simp; omega) hcut
  rw [read_part hr (by simp; omega), Nat.mul_one, bytesA_drop]
  congr 2
  exact List.take_of_length_le (by simp)
theorem SB.to_ {loc : Loc} {off cap j : Nat} (h : SB H el l (.sl loc off l.length cap)) (hj : j ≤ l.length) : SB H el (l.take j) (.sl loc off j cap) := by
 cases h with
 | sl _ _ _ _ hr hc hb hcut =>
  have e : j = (l.take j).length := by simp; omega
  have := SB.sl (H := H) (el := el) (l.take j) loc off cap (by
   rw [← e]
   have := read_part hr (o := 0) (m := j) (by omega)
   rw [Nat.add_zero] at this
   rw [this, bytesA_drop, List.drop_zero]) (by simp; omega) (by simp; omega) hcut
  rwa [← e] at this
end
section
variable {P : Program} {e : Env} {h : AH} {x y : Operand} {k : IntKind} {a b : Int} {el s d : TypeId} {l : List UInt8} {v : AV}
theorem r_min {ts : Array TypeId} (hx : ev e x = some (.int k a)) (hy : ev e y = some (.int k b)) : readOp P e h (.call ⟨.builtin .min, #[x, y], ts⟩) = some (.int k (min a b)) := by
 simp only [readOp, readCall, readBuiltin, doMin, evs, hx, hy, minA, ltI_eq]
 congr 2
 by_cases c : b < a
 ·rw [decide_eq_true c, if_pos rfl]; omega
 ·rw [decide_eq_false c]; simp; omega
theorem r_bytesStr (ht : P.underlying s = some (.slice el)) (hd : P.underlying d = some .string) (hel : P.underlying el = some (.int .u8)) (hc : csz P el = some 1) (hx : ev e x = some v) (hS : SB h el l v) : readOp P e h (.convert s d x) = some (.str l) := by
 simp only [readOp, doConvert, ht, hd, hx, bytesStr, hel, hc]
 cases hS with
 | nil => rfl
 | sl _ loc off cap hr _ _ _ => simp only [hr, bytesOf_bytesA, Option.map_some]
theorem r_convInt {k' : IntKind} {ks : IntKind} (ht : P.underlying s = some (.int ks)) (hd : P.underlying d = some (.int k')) (hx : ev e x = some (.int k a)) : readOp P e h (.convert s d x) = some (.int k' (wrapA k' a)) := by
 simp only [readOp, doConvert, ht, hd, hx]
end
end Go.VI
