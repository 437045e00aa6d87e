/-
 Bytes that grow.
-/
import Derived.Test.YtehmhhlhlipbnaaVjT
set_option autoImplicit false
set_option linter.unusedVariables false
set_option linter.unusedSimpArgs false
namespace Go.VI
theorem ones_bytes : ∀ l : List UInt8, ones (bytesA l) = true
 | [] => rfl
 | c :: r => by
  have := ones_bytes r
  simp only [bytesA, List.map_cons, ones, AV.one, Bool.and_eq_true, true_and] at this ⊢
  exact this
theorem bytesA_app (l m : List UInt8) : bytesA (l ++ m) = bytesA l ++ bytesA m := by simp [bytesA]
/-- a growing list of bytes -/
def GB (H0 : AH) (n : Nat) (H : AH) (el : TypeId) (l : List UInt8) (s : AV) : Prop := GX H0 n H el 1 (bytesA l) l.length s
section
variable {H0 H H' : AH} {n : Nat} {el : TypeId} {l : List UInt8} {s : AV}
theorem GB.nil : GB H0 n H el [] .nils := .inl ⟨rfl, rfl, rfl⟩
theorem GB.ext (G : GB H0 n H el l s) (E : Ext H H') : GB H0 n H' el l s := GX.ext G E
theorem GB.cap (G : GB H0 n H el l s) (W : Wf H) : GB H0 H.n H el l s := GX.cap G W
theorem GB.sb (G : GB H0 n H el l s) (hb : l.length ≤ 4611686018427387904) : SB H el l s := by
 rcases G with ⟨h0, _, rfl⟩ | ⟨h1, b, f, N, hbn, O⟩
 ·obtain rfl := List.eq_nil_of_length_eq_zero h0
  exact .nil
 ·obtain ⟨off, cap, cells, op, fam, rfl, q1, q2, q3, q4, q5, q6⟩ := O
  refine .sl l (.mt b) off cap ?_ q5 hb ?_
  ·rw [Nat.mul_one] at q3 q4; rw [read_mt q1 q3, q4]
  ·simp only [cutOk, q1]; cases op <;> simp
theorem str_src (l : List UInt8) : srcCells H 1 (.str l) = some (l.length, bytesA l) := rfl
end
section
variable {P : Program} {orc : CallF} {nt : Nat} {all l : List Oper} {K : St → Prop} {e : Env} {H0 h : AH} {ds : List ADef}
variable {d : Nat} {ty : TypeId} {pos : String} {aft : Array Edge} {g : Option (Nat × Bool)}
/-- append: bytes, onto bytes of one's own -/
theorem o_apB {x y : Operand} {t u el : TypeId} {dd : TypeDesc} {by_ n : Nat} {z s v : AV} {b m : List UInt8} (W0 : Wf H0) (W : Wf h) (E : Ext H0 h)
  (ht : P.underlying t = some (.slice el)) (hu : P.underlying u = some dd) (hd : isIntT dd = false) (hc : csz P el = some 1) (hb : byt P el = some by_) (hz : zeroOf P el = some z) (hzl : z.cells.length = 1)
  (hx : ev e x = some s) (hy : ev e y = some v) (G : GB H0 n h el b s) (hsrc : srcCells h 1 v = some (m.length, bytesA m)) (hr : room (b.length + m.length) by_ = true)
  (hs : loudK P nt ⟨some d, .call ⟨.builtin .append, #[x, y], #[t, u]⟩, ty, pos, aft, g⟩ = true) (hw : wantedA all e ⟨some d, .call ⟨.builtin .append, #[x, y], #[t, u]⟩, ty, pos, aft, g⟩ = true)
  (k : ∀ s' H', GB H0 H'.n H' el (b ++ m) s' → Wf H' → Ext H0 H' → h.n ≤ H'.n → (∀ c, (n ≤ c ∨ c < H0.n) → ∀ x, h.at c = some x → (famid x = none ∨ ∀ f, famid x = some f → f < H0.n) → H'.at c = some x) → WO P orc nt all l K ⟨e.set d s', H', ds⟩) :
  WO P orc nt all (⟨some d, .call ⟨.builtin .append, #[x, y], #[t, u]⟩, ty, pos, aft, g⟩ :: l) K ⟨e, h, ds⟩ := by
 have hnl : (bytesA m).length = m.length * 1 := by rw [bytesA_len, Nat.mul_one]
 have h3 : Nat.beq z.cells.length 1 = true := by rw [hzl]; rfl
 rcases G with ⟨h0, h1, rfl⟩ | ⟨hn, c, f, N, hcn, O⟩
 ·obtain rfl := List.eq_nil_of_length_eq_zero h0
  by_cases hm : m = []
  ·subst hm
   refine o_loud (o := ⟨some d, .call ⟨.builtin .append, #[x, y], #[t, u]⟩, ty, pos, aft, g⟩) (v := .nils) (h' := h) hs hw ?_ (k .nils h GB.nil W E (Nat.le_refl _) (fun c _ x hx _ => hx))
   have hsrc' : srcCells h 1 v = some (0, []) := hsrc
   simp only [loudOp, doCall, doBuiltin, doAppend, ht, hu, hx, hy, hd, appendBy, hc, hb, hz, h3, hsrc', appendA, appendNil, valH]
   rfl
  ·have hm1 : 1 ≤ m.length := List.length_pos_iff.2 hm
   have hpush : isRowFam (.row (bytesA m) el true none) = none := rfl
   have hO : Own (h.push (.row (bytesA m) el true none)) el 1 (freshSl h.n m.length m.length) m.length (bytesA m) h.n none := ⟨0, m.length, bytesA m, true, none, rfl, at_push_eq rfl (by simp), rfl, by omega, by rw [List.drop_zero, List.take_of_length_le (by omega)], Nat.le_refl _, by omega⟩
   have X := Ext.push W hpush
   refine o_loud (o := ⟨some d, .call ⟨.builtin .append, #[x, y], #[t, u]⟩, ty, pos, aft, g⟩) (v := freshSl h.n m.length m.length) (h' := h.push (.row (bytesA m) el true none)) hs hw ?_
    (k (freshSl h.n m.length m.length) (h.push (.row (bytesA m) el true none)) (.inr ⟨hm1, h.n, none, ⟨E.n, fun f hf => by cases hf⟩, hO.lt X.wf, hO⟩) X.wf (E.trans X) X.n (fun c _ x hx _ => X.keep _ _ hx))
   have hm0 : Nat.beq m.length 0 = false := by
    cases hq : m.length with
    | zero => omega
    | succ _ => rfl
   have hrm : room m.length by_ = true := by simpa using hr
   simp only [loudOp, doCall, doBuiltin, doAppend, ht, hu, hx, hy, hd, appendBy, hc, hb, hz, h3, hsrc, ones_bytes, appendA, appendNil, hm0, hrm, newRowA, valH]
 ·obtain ⟨s', H', b', fm', a1, a2, a3, a4, a5, a6, a7, a8⟩ := append_own (by_ := by_) W O (Nat.le_refl 1) hr hnl (ones_bytes m)
  refine o_loud (o := ⟨some d, .call ⟨.builtin .append, #[x, y], #[t, u]⟩, ty, pos, aft, g⟩) hs hw ?_
   (k s' H' (.inr ⟨by rw [List.length_append]; omega, b', fm', N.step E.n a6 a7, a2.lt a3, by rw [bytesA_app, List.length_append]; exact a2⟩) a3 (Ext.keeps W0 E N a8 a4 a3) a4 (fun q hq x hx hf => a8 q x hx (by have := N.1; omega) ?_))
  ·simp only [loudOp, doCall, doBuiltin, doAppend, ht, hu, hx, hy, hd, appendBy, hc, hb, hz, h3, hsrc, ones_bytes, a1, valH]
  ·rcases hf with hf | hf
   ·exact .inl hf
   ·cases hfx : famid x with
    | none => exact .inl rfl
    | some fx =>
     refine .inr fun e => ?_
     have h1 := hf fx hfx
     have h2 := N.2 fx e.symm
     omega
end
end Go.VI
