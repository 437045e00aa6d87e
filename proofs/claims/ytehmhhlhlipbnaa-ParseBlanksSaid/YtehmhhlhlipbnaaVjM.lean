/-
 Lists of strings; two lists that grow side by side; bytes as bytes.
-/
import Derived.Test.YtehmhhlhlipbnaaVjL
import Derived.Test.YtehmhhlhlipbnaaVjK
set_option autoImplicit false
set_option linter.unusedVariables false
set_option linter.unusedSimpArgs false
namespace Go.VI
inductive SW (H : AH) : List (List UInt8) → AV → Prop where
 | nil : SW H [] .nils
 | sl (l : List (List UInt8)) (loc : Loc) (off cap : Nat) (hr : H.read loc off l.length = some (l.map AV.str)) (hc : l.length ≤ cap) (hb : l.length ≤ 4611686018427387904) : SW H l (.sl loc off l.length cap)
section
variable {H0 H H' : AH} {n : Nat} {l : List (List UInt8)} {s : AV}
theorem SW.ext (E : Ext H H') (h : SW H l s) : SW H' l s := by
 cases h with
 | nil => exact .nil
 | sl _ loc off cap hr hc hb => exact .sl l loc off cap (E.read hr) hc hb
theorem SW.lenOf (h : SW H l s) : VI.lenOf s = some l.length := by cases h <;> rfl
theorem SW.bound (h : SW H l s) : l.length ≤ 4611686018427387904 := by
 cases h with
 | nil => simp
 | sl _ _ _ _ _ _ hb => exact hb
theorem SW.get (h : SW H l s) {i : Nat} (hi : i < l.length) : ∃ loc off cap, s = .sl loc off l.length cap ∧ H.read loc (off + i * 1) 1 = some [.str l[i]] := by
 cases h with
 | nil => simp at hi
 | sl _ loc off cap hr hc hb =>
  refine ⟨loc, off, cap, rfl, ?_⟩
  rw [read_part hr (by omega), Nat.mul_one]
  congr 1
  rw [List.drop_eq_getElem_cons (by simpa using hi)]
  simp
theorem SW.of (G : GX H0 n H 9 1 (l.map AV.str) l.length s) (hb : l.length ≤ 4611686018427387904) : SW H l s := by
 rcases G with ⟨h0, _, rfl⟩ | ⟨h1, b, f, N, hbn, O⟩
 ·obtain rfl := List.eq_nil_of_length_eq_zero h0
  exact .nil
 ·obtain ⟨off, cap, rfl, hc, hr⟩ := O.read
  exact .sl l (.mt b) off cap (by rw [Nat.mul_one] at hr; exact hr) hc hb
theorem SB.mid {el : TypeId} {b : List UInt8} {loc : Loc} {off cap c m : Nat} (h : SB H el b (.sl loc off b.length cap)) (hcm : c + m ≤ b.length) : SB H el ((b.drop c).take m) (.sl loc (off + c * 1) m (cap - c)) := by
 have h1 := h.from_ (j := c) (by omega)
 rw [show b.length - c = (b.drop c).length by simp] at h1
 exact h1.to_ (by simp; omega)
/-- two growing lists, apart from each other -/
def G2 (H0 H : AH) (el1 el2 : TypeId) (c1 : List AV) (n1 : Nat) (s1 : AV) (c2 : List AV) (n2 : Nat) (s2 : AV) : Prop :=
 ∃ b1 f1 b2 f2, New H0 b1 f1 ∧ New H0 b2 f2 ∧ ((n1 = 0 ∧ c1 = [] ∧ s1 = .nils) ∨ (1 ≤ n1 ∧ Own H el1 1 s1 n1 c1 b1 f1)) ∧ 1 ≤ n2 ∧ Own H el2 1 s2 n2 c2 b2 f2 ∧ ((n1 = 0 ∧ s1 = .nils) ∨ Apart b1 f1 b2 f2)
variable {el1 el2 : TypeId} {c1 c2 : List AV} {n1 n2 : Nat} {s1 s2 : AV}
theorem G2.ext (G : G2 H0 H el1 el2 c1 n1 s1 c2 n2 s2) (E : Ext H H') : G2 H0 H' el1 el2 c1 n1 s1 c2 n2 s2 := by
 obtain ⟨b1, f1, b2, f2, N1, N2, h1, h2, O2, A⟩ := G
 exact ⟨b1, f1, b2, f2, N1, N2, h1.imp id (fun h => ⟨h.1, h.2.ext E⟩), h2, O2.ext E, A⟩
theorem G2.second (G : G2 H0 H el1 el2 c1 n1 s1 c2 n2 s2) (W : Wf H) : GX H0 H.n H el2 1 c2 n2 s2 := by
 obtain ⟨b1, f1, b2, f2, N1, N2, h1, h2, O2, A⟩ := G
 exact .inr ⟨h2, b2, f2, N2, O2.lt W, O2⟩
theorem G2.start (G : GX H0 n H el2 1 c2 n2 s2) (h : 1 ≤ n2) : G2 H0 H el1 el2 [] 0 .nils c2 n2 s2 := by
 rcases G with ⟨h0, _⟩ | ⟨_, b, f, N, hb, O⟩
 ·omega
 ·exact ⟨b, f, b, f, N, N, .inl ⟨rfl, rfl, rfl⟩, h, O, .inl ⟨rfl, rfl⟩⟩
end
section
variable {P : Program} {orc : CallF} {nt : Nat} {all l : List Oper} {K : St → Prop} {e : Env} {H0 h : AH} {ds : List ADef}
variable {d : Nat} {ty : TypeId} {pos : String} {aft : Array Edge} {g : Option (Nat × Bool)}
/-- append onto the second -/
theorem o_ap2 {x y : Operand} {t u el1 el2 : TypeId} {dd : TypeDesc} {by_ n1 n2 m : Nat} {z s1 s2 v : AV} {c1 c2 new : List AV} (W0 : Wf H0) (W : Wf h) (E : Ext H0 h)
  (ht : P.underlying t = some (.slice el2)) (hu : P.underlying u = some dd) (hd : isIntT dd = false) (hc : csz P el2 = some 1) (hb : byt P el2 = some by_) (hz : zeroOf P el2 = some z) (hzl : z.cells.length = 1)
  (hx : ev e x = some s2) (hy : ev e y = some v) (G : G2 H0 h el1 el2 c1 n1 s1 c2 n2 s2) (hsrc : srcCells h 1 v = some (m, new)) (hnl : new.length = m) (h1 : ones new = true) (hr : room (n2 + m) by_ = true)
  (hs : loudK P nt ⟨some d, .call ⟨.builtin .append, #[x, y], #[t, u]⟩, ty, pos, aft, g⟩ = true) (hw : wantedA all e ⟨some d, .call ⟨.builtin .append, #[x, y], #[t, u]⟩, ty, pos, aft, g⟩ = true)
  (k : ∀ s' H', G2 H0 H' el1 el2 c1 n1 s1 (c2 ++ new) (n2 + m) s' → Wf H' → Ext H0 H' → WO P orc nt all l K ⟨e.set d s', H', ds⟩) :
  WO P orc nt all (⟨some d, .call ⟨.builtin .append, #[x, y], #[t, u]⟩, ty, pos, aft, g⟩ :: l) K ⟨e, h, ds⟩ := by
 have h3 : Nat.beq z.cells.length 1 = true := by rw [hzl]; rfl
 obtain ⟨b1, f1, b2, f2, N1, N2, g1, g2, O2, A⟩ := G
 obtain ⟨s', H', b', fm', a1, a2, a3, a4, a5, a6, a7, a8⟩ := append_own (by_ := by_) W O2 (Nat.le_refl 1) hr (by rw [hnl, Nat.mul_one]) h1
 have E' := Ext.keeps W0 E N2 a8 a4 a3
 refine o_loud (o := ⟨some d, .call ⟨.builtin .append, #[x, y], #[t, u]⟩, ty, pos, aft, g⟩) hs hw ?_ (k s' H' ?_ a3 E')
 ·simp only [loudOp, doCall, doBuiltin, doAppend, ht, hu, hx, hy, hd, appendBy, hc, hb, hz, h3, hsrc, h1, a1, valH]
 ·refine ⟨b1, f1, b', fm', N1, N2.step E.n a6 a7, ?_, by omega, a2, ?_⟩
  ·rcases g1 with g1 | ⟨g1, O1⟩
   ·exact .inl g1
   ·rcases A with ⟨A1, _⟩ | A
    ·omega
    ·exact .inr ⟨g1, O1.other a8 A⟩
  ·rcases A with A | A
   ·exact .inl A
   ·rcases g1 with ⟨q1, _, q2⟩ | ⟨_, O1⟩
    ·exact .inl ⟨q1, q2⟩
    ·exact .inr (Apart.symm (A.symm.step (O1.lt W) (fun f hf => O1.famlt W hf) a6 a7))
/-- append of one onto the first -/
theorem o_ap1 {x y : Operand} {t u el1 el2 : TypeId} {dd : TypeDesc} {by_ b n1 n2 : Nat} {z s1 s2 w : AV} {c1 c2 : List AV} (W0 : Wf H0) (W : Wf h) (E : Ext H0 h)
  (ht : P.underlying t = some (.slice el1)) (hu : P.underlying u = some dd) (hd : isIntT dd = false) (hc : csz P el1 = some 1) (hb : byt P el1 = some by_) (hz : zeroOf P el1 = some z) (hzl : z.cells.length = 1)
  (hx : ev e x = some s1) (hy : ev e y = some (freshSl b 1 1)) (G : G2 H0 h el1 el2 c1 n1 s1 c2 n2 s2) (ha : h.at b = some (.row [w] el1 false none)) (h1 : w.one = true) (hr : room (n1 + 1) by_ = true)
  (hs : loudK P nt ⟨some d, .call ⟨.builtin .append, #[x, y], #[t, u]⟩, ty, pos, aft, g⟩ = true) (hw : wantedA all e ⟨some d, .call ⟨.builtin .append, #[x, y], #[t, u]⟩, ty, pos, aft, g⟩ = true)
  (k : ∀ s' H', G2 H0 H' el1 el2 (c1 ++ [w]) (n1 + 1) s' c2 n2 s2 → Wf H' → Ext H0 H' → WO P orc nt all l K ⟨e.set d s', H', ds⟩) :
  WO P orc nt all (⟨some d, .call ⟨.builtin .append, #[x, y], #[t, u]⟩, ty, pos, aft, g⟩ :: l) K ⟨e, h, ds⟩ := by
 have h3 : Nat.beq z.cells.length 1 = true := by rw [hzl]; rfl
 have hsrc : srcCells h 1 (freshSl b 1 1) = some (1, [w]) := src_fresh (n := 1) ha rfl
 have ho : ones [w] = true := by simp [ones, h1]
 obtain ⟨b1, f1, b2, f2, N1, N2, g1, g2, O2, A⟩ := G
 rcases g1 with ⟨rfl, rfl, rfl⟩ | ⟨g1, O1⟩
 ·have hpush : isRowFam (.row [w] el1 true none) = none := rfl
  have X := Ext.push W hpush
  have hO : Own (h.push (.row [w] el1 true none)) el1 1 (freshSl h.n 1 1) 1 [w] h.n none := ⟨0, 1, [w], true, none, rfl, at_push_eq rfl (by simp), rfl, Nat.le_refl _, rfl, Nat.le_refl _, Nat.le_refl _⟩
  refine o_loud (o := ⟨some d, .call ⟨.builtin .append, #[x, y], #[t, u]⟩, ty, pos, aft, g⟩) (v := freshSl h.n 1 1) (h' := h.push (.row [w] el1 true none)) hs hw ?_
   (k (freshSl h.n 1 1) (h.push (.row [w] el1 true none)) ⟨h.n, none, b2, f2, ⟨E.n, fun f hf => by cases hf⟩, N2, .inr ⟨Nat.le_refl _, hO⟩, g2, O2.ext X, .inr ⟨by have := O2.lt W; omega, .inl rfl⟩⟩ X.wf (E.trans X))
  have hrm : room 1 by_ = true := by simpa using hr
  have hb0 : Nat.beq 1 0 = false := rfl
  simp only [loudOp, doCall, doBuiltin, doAppend, ht, hu, hx, hy, hd, appendBy, hc, hb, hz, h3, hsrc, ho, appendA, appendNil, hb0, hrm, newRowA, valH]
 ·obtain ⟨s', H', b', fm', a1, a2, a3, a4, a5, a6, a7, a8⟩ := append_own (by_ := by_) W O1 (Nat.le_refl 1) hr (new := [w]) rfl ho
  have E' := Ext.keeps W0 E N1 a8 a4 a3
  refine o_loud (o := ⟨some d, .call ⟨.builtin .append, #[x, y], #[t, u]⟩, ty, pos, aft, g⟩) hs hw ?_ (k s' H' ?_ a3 E')
  ·simp only [loudOp, doCall, doBuiltin, doAppend, ht, hu, hx, hy, hd, appendBy, hc, hb, hz, h3, hsrc, ho, a1, valH]
  ·rcases A with ⟨A1, _⟩ | A
   ·omega
   ·exact ⟨b', fm', b2, f2, N1.step E.n a6 a7, N2, .inr ⟨by omega, a2⟩, g2, O2.other a8 A.symm, .inr (A.step (O2.lt W) (fun f hf => O2.famlt W hf) a6 a7)⟩
/-- bytes as bytes -/
theorem o_cv {x : Operand} {s el : TypeId} {b off n cap : Nat} {cells : List AV} {el' : TypeId} {op : Bool} {fam : Option (Nat × Nat)} (hs : P.underlying s = some (.slice el)) (he : P.underlying el = some (.int .u8)) (hx : ev e x = some (.sl (.mt b) off n cap)) (ha : h.at b = some (.row cells el' op fam)) (hc : 0 < cap)
  (hk : loudK P nt ⟨some d, .convert s s x, ty, pos, aft, g⟩ = true) (hw : wantedA all e ⟨some d, .convert s s x, ty, pos, aft, g⟩ = true) (k : WO P orc nt all l K ⟨e.set d (.sl (.mt b) off n cap), h, ds⟩) :
  WO P orc nt all (⟨some d, .convert s s x, ty, pos, aft, g⟩ :: l) K ⟨e, h, ds⟩ := by
 refine o_loud (o := ⟨some d, .convert s s x, ty, pos, aft, g⟩) hk hw ?_ k
 have h1 : (Nat.beq s s && Nat.blt 0 cap) = true := by
  rw [Nat.beq_refl, blt_iff, Bool.true_and]; exact decide_eq_true hc
 simp only [loudOp, doStringish, hs, hx, he, ha, h1]
end
end Go.VI
