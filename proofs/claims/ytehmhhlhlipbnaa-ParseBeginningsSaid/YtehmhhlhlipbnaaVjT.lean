/-
 More rules: s[i:], an empty slice, append onto nil, a closure.
-/
import Derived.Test.YtehmhhlhlipbnaaVj
set_option autoImplicit false
set_option linter.unusedVariables false
set_option linter.unusedSimpArgs false
namespace Go.VI
section
variable {P : Program} {e : Env} {h : AH} {t : TypeId} {x : Operand} {l : Loc} {o n c : Nat} {k : IntKind}
theorem r_sliceFrom {el : TypeId} {s j : Nat} {m : Operand} (ht : P.underlying t = some (.slice el)) (hs : csz P el = some (s + 1)) (hx : ev e x = some (.sl l o n c)) (hy : ev e m = some (.int k (j : Int))) (hj : j ≤ n) (hnc : n ≤ c) (hc : cutOk h el l = true) :
  readOp P e h (.slice t x (some m) none none) = some (.sl l (o + j * (s + 1)) (n - j) (c - j)) := by
 have e1 : bound (.int k (Int.ofNat j)) n = some j := by simp only [bound, bleT hj]
 have e2 : Nat.ble j c = true := bleT (by omega)
 simp only [readOp, doSlice, ht, hx, hy, optEv, Option.map_some, sliceBy, hs, sliceSl, optBound, hc, Option.isSome_none, Bool.false_and, highOf, bleT hnc]
 show (match bound (AV.int k (Int.ofNat j)) n with | none => none | some a => match Nat.ble a c with | true => some (AV.sl l (o + a * (s + 1)) (n - a) (c - a)) | false => none) = _
 simp only [e1, e2]
theorem a_build0 {el : TypeId} {s : Nat} {z : AV} (ht : P.underlying t = some (.slice el)) (hs : csz P el = some (s + 1)) (hz : zeroOf P el = some z) (hzl : z.cells.length = s + 1) : allocOp P e (.buildSlice t 0 #[]) = some (.row [] el false none, fun b => freshSl b 0 0) := by
 have h2 : Nat.beq z.cells.length (s + 1) = true := by rw [hzl]; exact Nat.beq_refl _
 have h1 : Nat.ble (0 * (s + 1)) 16777216 = true := bleT (by omega)
 have h3 : reps 0 z.cells = [] := by simp [reps]
 simp only [allocOp, doBuildSlice, ht, evParts, buildSl1, hs, hz, buildSl, h1, h2, h3, fillA]
theorem r_makeFunc {f : Fn} {fs cs : Array Operand} {a b : List AV} (h1 : evs e fs.toList = some a) (h2 : evs e cs.toList = some b) : readOp P e h (.makeFunc f fs cs) = some (.fn f a b) := by
 simp only [readOp, doFunc, h1, h2]
end
section
variable {P : Program} {orc : CallF} {nt : Nat} {all l : List Oper} {K : St → Prop} {e : Env} {h : AH} {ds : List ADef}
variable {d : Nat} {ty : TypeId} {pos : String} {aft : Array Edge} {g : Option (Nat × Bool)}
/-- append onto nil -/
theorem o_apN {x y : Operand} {t u : TypeId} {dd : TypeDesc} {el : TypeId} {e' by_ m : Nat} {z v : AV} {new : List AV} (W : Wf h)
  (ht : P.underlying t = some (.slice el)) (hu : P.underlying u = some dd) (hd : isIntT dd = false) (hc : csz P el = some (e' + 1)) (hb : byt P el = some by_) (hz : zeroOf P el = some z) (hzl : z.cells.length = e' + 1)
  (hx : ev e x = some .nils) (hy : ev e y = some v) (hsrc : srcCells h (e' + 1) v = some (m, new)) (hnl : new.length = m * (e' + 1)) (h1 : ones new = true) (hm : 1 ≤ m) (hr : m * (by_ + 1) ≤ 70368744177664)
  (hs : loudK P nt ⟨some d, .call ⟨.builtin .append, #[x, y], #[t, u]⟩, ty, pos, aft, g⟩ = true) (hw : wantedA all e ⟨some d, .call ⟨.builtin .append, #[x, y], #[t, u]⟩, ty, pos, aft, g⟩ = true)
  (k : ∀ s' H', Own H' el (e' + 1) s' m new h.n none → Wf H' → H'.n = h.n + 1 → Ext h H' → WO P orc nt all l K ⟨e.set d s', H', ds⟩) :
  WO P orc nt all (⟨some d, .call ⟨.builtin .append, #[x, y], #[t, u]⟩, ty, pos, aft, g⟩ :: l) K ⟨e, h, ds⟩ := by
 have hpush : isRowFam (.row new el true none) = none := rfl
 refine o_loud (o := ⟨some d, .call ⟨.builtin .append, #[x, y], #[t, u]⟩, ty, pos, aft, g⟩) (v := freshSl h.n m m) (h' := h.push (.row new el true none)) hs hw ?_
  (k (freshSl h.n m m) (h.push (.row new el true none)) ⟨0, m, new, true, none, rfl, at_push_eq rfl (by simp), rfl, by omega, by rw [List.drop_zero, List.take_of_length_le (by omega)], Nat.le_refl _, by omega⟩ (Ext.push W hpush).wf rfl (Ext.push W hpush))
 have h3 : Nat.beq z.cells.length (e' + 1) = true := by rw [hzl]; exact Nat.beq_refl _
 have hm0 : Nat.beq m 0 = false := by cases m with | zero => omega | succ _ => rfl
 have hrm : room m by_ = true := room_of hr
 simp only [loudOp, doCall, doBuiltin, doAppend, ht, hu, hx, hy, hd, appendBy, hc, hb, hz, h3, hsrc, h1, appendA, appendNil, hm0, hrm, newRowA, valH]
end

end Go.VI
