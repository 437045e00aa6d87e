/-
  A book of values that were handed out: what it holds, what may change.
-/
import Derived.Test.YtenfjdkeikjhlaaGrow
import Derived.Test.YtenfjdkeikjhlaaHolds
import Derived.Test.YtenfjdkeikjhlaaWithR
set_option autoImplicit false
set_option linter.unusedVariables false
set_option linter.unusedSimpArgs false
namespace Go.VI
section
variable {P : Program} {orc : CallF} {nt : Nat} {all l : List Oper} {K : St → Prop} {e : Env} {h : AH} {ds : List ADef}
variable {d : Nat} {ty : TypeId} {pos : String} {aft : Array Edge} {g : Option (Nat × Bool)}
variable {ms : List Nat} {ls : List Look} {il : List Nat} {i : Nat}
theorem ev_app {x : Operand} {args : Array Operand} {ts : Array TypeId} {b : Builtin} (hx : x ∈ args.toList) : ev (only e (operandTmps (.call ⟨.builtin b, args, ts⟩))) x = ev e x :=
  ev_only (fun t ht => mem_operandTmps (by simp only [Op.operands, Call.operands, Array.toList_append, List.mem_append]; subst ht; exact .inr hx))
theorem d_apO {x y : Operand} {t u : TypeId} {dd : TypeDesc} {el : TypeId} {e' by_ n m : Nat} {z s v : AV} {cs new : List AV} {b : Nat} {fm : Option Nat} (hi : all[i]? = some ⟨some d, .call ⟨.builtin .append, #[x, y], #[t, u]⟩, ty, pos, aft, g⟩) (W : Wf h)
    (ht : P.underlying t = some (.slice el)) (hu : P.underlying u = some dd) (hd : isIntT dd = false) (hc : csz P el = some (e' + 1)) (hb : byt P el = some by_) (hz : zeroOf P el = some z) (hzl : z.cells.length = e' + 1)
    (hx : ev e x = some s) (hy : ev e y = some v) (O : Own h el (e' + 1) s n cs b fm) (hsrc : srcCells h (e' + 1) v = some (m, new)) (hnl : new.length = m * (e' + 1)) (h1 : ones new = true) (hr : (n + m) * (by_ + 1) ≤ 70368744177664)
    (hs : loudK P nt ⟨some d, .call ⟨.builtin .append, #[x, y], #[t, u]⟩, ty, pos, aft, g⟩ = true) (hw : wantedA all e ⟨some d, .call ⟨.builtin .append, #[x, y], #[t, u]⟩, ty, pos, aft, g⟩ = true)
    (k : ∀ s' H' b' fm', Own H' el (e' + 1) s' (n + m) (cs ++ new) b' fm' → Wf H' → h.n ≤ H'.n → H'.n ≤ h.n + 1 → (b' = b ∨ b' = h.n) → (fm' = none ∨ fm' = fm ∨ fm' = some h.n) → Keeps h H' b fm → recheck P (ms.getD i 0) H' ls = true ∧ WD P orc nt all ms il ls K ⟨e.set d s', H', ds⟩) :
    WD P orc nt all ms (i :: il) ls K ⟨e, h, ds⟩ := by
  obtain ⟨s', H', b', fm', a1, a2, a3, a4, a5, a6, a7, a8⟩ := append_own (by_ := by_) W O (Nat.le_add_left 1 e') (room_of hr) hnl h1
  obtain ⟨k1, k2⟩ := k s' H' b' fm' a2 a3 a4 a5 a6 a7 a8
  refine d_loud hi hs hw ?_ k1 k2
  have h3 : Nat.beq z.cells.length (e' + 1) = true := by rw [hzl]; exact Nat.beq_refl _
  have e1 : ev (only e (operandTmps (.call ⟨.builtin .append, #[x, y], #[t, u]⟩))) x = ev e x := ev_app (by simp)
  have e2 : ev (only e (operandTmps (.call ⟨.builtin .append, #[x, y], #[t, u]⟩))) y = ev e y := ev_app (by simp)
  simp only [loudOp, doCall, doBuiltin, doAppend, ht, hu, e1, e2, hx, hy, hd, appendBy, hc, hb, hz, h3, hsrc, h1, a1, valH]
theorem d_apN {x y : Operand} {t u : TypeId} {dd : TypeDesc} {el : TypeId} {e' by_ m : Nat} {z v : AV} {new : List AV} (hi : all[i]? = some ⟨some d, .call ⟨.builtin .append, #[x, y], #[t, u]⟩, ty, pos, aft, g⟩) (W : Wf h)
    (ht : P.underlying t = some (.slice el)) (hu : P.underlying u = some dd) (hd : isIntT dd = false) (hc : csz P el = some (e' + 1)) (hb : byt P el = some by_) (hz : zeroOf P el = some z) (hzl : z.cells.length = e' + 1)
    (hx : ev e x = some .nils) (hy : ev e y = some v) (hsrc : srcCells h (e' + 1) v = some (m, new)) (hnl : new.length = m * (e' + 1)) (h1 : ones new = true) (hm : 1 ≤ m) (hr : m * (by_ + 1) ≤ 70368744177664)
    (hs : loudK P nt ⟨some d, .call ⟨.builtin .append, #[x, y], #[t, u]⟩, ty, pos, aft, g⟩ = true) (hw : wantedA all e ⟨some d, .call ⟨.builtin .append, #[x, y], #[t, u]⟩, ty, pos, aft, g⟩ = true)
    (k : ∀ s' H', Own H' el (e' + 1) s' m new h.n none → Wf H' → H'.n = h.n + 1 → Ext h H' → recheck P (ms.getD i 0) H' ls = true ∧ WD P orc nt all ms il ls K ⟨e.set d s', H', ds⟩) :
    WD P orc nt all ms (i :: il) ls K ⟨e, h, ds⟩ := by
  have hpush : isRowFam (.row new el true none) = none := rfl
  obtain ⟨k1, k2⟩ := k (freshSl h.n m m) (h.push (.row new el true none)) ⟨0, m, new, true, none, rfl, at_push_eq rfl (by simp), rfl, by omega, by rw [List.drop_zero, List.take_of_length_le (by omega)], Nat.le_refl _, by omega⟩ (Ext.push W hpush).wf rfl (Ext.push W hpush)
  refine d_loud hi hs hw ?_ k1 k2
  have h3 : Nat.beq z.cells.length (e' + 1) = true := by rw [hzl]; exact Nat.beq_refl _
  have hm0 : Nat.beq m 0 = false := by cases m with | zero => omega | succ _ => rfl
  have hrm : room m by_ = true := room_of hr
  have e1 : ev (only e (operandTmps (.call ⟨.builtin .append, #[x, y], #[t, u]⟩))) x = ev e x := ev_app (by simp)
  have e2 : ev (only e (operandTmps (.call ⟨.builtin .append, #[x, y], #[t, u]⟩))) y = ev e y := ev_app (by simp)
  simp only [loudOp, doCall, doBuiltin, doAppend, ht, hu, e1, e2, hx, hy, hd, appendBy, hc, hb, hz, h3, hsrc, h1, appendA, appendNil, hm0, hrm, newRowA, valH]
end
theorem apart2_of {e : Env} {all : List Oper} {ord pre : List Nat} {i j b c o o' : Nat} {p q : Oper} {t t' : TypeId} {x y x' y' : Operand} (hl : lastTwo ord = some (pre, i, j)) (hi : all[i]? = some p) (hj : all[j]? = some q) (hp : p.op = .store t x y) (hq : q.op = .store t' x' y')
    (hx : ev e x = some (.ptr (.mt b) o)) (hy : ev e x' = some (.ptr (.mt c) o')) (hn : b ≠ c) : apart2 e all ord = true := by
  have : Nat.beq b c = false := by
    cases h : Nat.beq b c with
    | false => rfl
    | true => exact absurd (Nat.eq_of_beq_eq_true h) hn
  simp only [apart2, hl, apartA, hi, hj, hp, hq, hx, hy, this, Bool.not_false]
/-- all is kept but a block and what two slices of one's own may have changed -/
structure K3 (hb b : Nat) (f : Option Nat) (b' : Nat) (f' : Option Nat) (H H' : AH) : Prop where
  n : H.n ≤ H'.n
  wf : Wf H'
  keep : ∀ c x, H.at c = some x → c ≠ hb → c ≠ b → (famid x = none ∨ famid x ≠ f) → c ≠ b' → (famid x = none ∨ famid x ≠ f') → H'.at c = some x
section
variable {hb b b' b1 b1' b2 : Nat} {f f' f1 f1' f2 : Option Nat} {H H' H1 H2 : AH}
theorem K3.ofExt (E : Ext H H') : K3 hb b f b' f' H H' := ⟨E.n, E.wf, fun c x h _ _ _ _ _ => E.keep c x h⟩
theorem K3.first (K : Keeps H H' b f) (hn : H.n ≤ H'.n) (W : Wf H') : K3 hb b f b' f' H H' := ⟨hn, W, fun c x h _ h1 h2 _ _ => K c x h h1 h2⟩
theorem K3.second (K : Keeps H H' b' f') (hn : H.n ≤ H'.n) (W : Wf H') : K3 hb b f b' f' H H' := ⟨hn, W, fun c x h _ _ _ h1 h2 => K c x h h1 h2⟩
theorem K3.own (K : Keeps H H' hb none) (hn : H'.n = H.n) (W : Wf H') : K3 hb b f b' f' H H' := ⟨by omega, W, fun c x h h1 _ _ _ _ => Keeps.own K h h1⟩
theorem K3.refl (W : Wf H) : K3 hb b f b' f' H H := K3.ofExt (Ext.refl W)
theorem K3.trans (W : Wf H) (h : K3 hb b f b' f' H H1) (n1 : Nw H b f b1 f1) (n2 : Nw H b' f' b1' f1') (k : K3 hb b1 f1 b1' f1' H1 H2) : K3 hb b f b' f' H H2 := ⟨Nat.le_trans h.n k.n, k.wf, fun c x hx h0 h1 h2 h3 h4 => by
  have hc := W.lt hx
  have fam : ∀ {f f1 : Option Nat}, (∀ g, f1 = some g → f = some g ∨ H.n ≤ g) → (famid x = none ∨ famid x ≠ f) → (famid x = none ∨ famid x ≠ f1) := fun hh h => by
    cases hx2 : famid x with
    | none => exact .inl rfl
    | some g =>
      refine .inr fun e => ?_
      have := W.famlt hx hx2
      rcases hh g e.symm with e2 | e2
      · rw [hx2, e2] at h; rcases h with h | h
        · cases h
        · exact h rfl
      · omega
  refine k.keep c x (h.keep c x hx h0 h1 h2 h3 h4) h0 ?_ (fam n1.2 h2) ?_ (fam n2.2 h4)
  · rcases n1.1 with e | e
    · omega
    · omega
  · rcases n2.1 with e | e
    · omega
    · omega⟩
theorem K3.row (K : K3 hb b f b' f' H H') {c : Nat} {cells : List AV} {el : TypeId} {op : Bool} (h : H.at c = some (.row cells el op none)) (h1 : c ≠ hb) (h2 : c ≠ b) (h3 : c ≠ b') : H'.at c = some (.row cells el op none) := K.keep c _ h h1 h2 (.inl rfl) h3 (.inl rfl)
theorem Own.k3 {el e n : Nat} {s : AV} {cs : List AV} {c : Nat} {fc : Option Nat} (O : Own H el e s n cs c fc) (K : K3 hb b f b' f' H H') (h : c ≠ hb) (A : Apart c fc b f) (A' : Apart c fc b' f') : Own H' el e s n cs c fc :=
  Own.keep O fun x hx hf => K.keep _ _ hx h A.1 (by rw [hf]; exact A.2) A'.1 (by rw [hf]; exact A'.2)
end
section
variable {H H' : AH} {e : Nat}
mutual
theorem FT.keepR {bs : List Nat} {v : V} {a : List AV} : FT H e bs v a → (∀ c ∈ bs, ∀ x, H.at c = some (.row x 24 false none) → H'.at c = some (.row x 24 false none)) → FT H' e bs v a
  | .mk _ _ _ _ _ h, k => .mk _ _ _ _ _ (FSl.keepR h k)
theorem FSl.keepR {bs : List Nat} {l : List V} {s : AV} : FSl H e bs l s → (∀ c ∈ bs, ∀ x, H.at c = some (.row x 24 false none) → H'.at c = some (.row x 24 false none)) → FSl H' e bs l s
  | .nil, _ => .nil
  | .sl b bs l cs sp ha hs hb h, k => .sl b bs l cs sp (k b List.mem_cons_self _ ha) hs hb (FL.keepR h fun c hc => k c (List.mem_cons_of_mem _ hc))
theorem FL.keepR {bs : List Nat} {l : List V} {cs : List AV} : FL H e bs l cs → (∀ c ∈ bs, ∀ x, H.at c = some (.row x 24 false none) → H'.at c = some (.row x 24 false none)) → FL H' e bs l cs
  | .nil, _ => .nil
  | .cons bs bs' v l a cs h h2, k => .cons bs bs' v l a cs (FT.keepR h fun c hc => k c (List.mem_append_left _ hc)) (FL.keepR h2 fun c hc => k c (List.mem_append_right _ hc))
end
theorem FL.one {bs : List Nat} {v : V} {a : List AV} (h : FT H e bs v a) : FL H e bs [v] a := by
  have := FL.cons bs [] v [] a [] h .nil; rwa [List.append_nil, List.append_nil] at this
end
/-- A book: its two lists, and the values with what each must read as. -/
def BK (H : AH) (hb bo : Nat) (fo : Option Nat) (bw : Nat) (fw : Option Nat) (L : List V) (Fo Fw : List Nat) : Prop :=
  ∃ oo cpo ow cpw co cw, H.at hb = some (.row [.sl (.mt bo) oo L.length cpo, .sl (.mt bw) ow L.length cpw] 41 false none) ∧ Own H 24 3 (.sl (.mt bo) oo L.length cpo) L.length co bo fo ∧ Own H 24 3 (.sl (.mt bw) ow L.length cpw) L.length cw bw fw ∧ Apart bo fo bw fw ∧ bo ≠ hb ∧ bw ≠ hb ∧
    FL H 0 Fo L co ∧ FL H 1 Fw L cw ∧ (Fo ++ Fw).Nodup ∧ ∀ c ∈ Fo ++ Fw, c ≠ hb ∧ c ≠ bo ∧ c ≠ bw ∧ c < H.n
theorem own_open {H : AH} {el e n : Nat} {s : AV} {cs : List AV} {b : Nat} {fm : Option Nat} (O : Own H el e s n cs b fm) : ∃ o c, s = .sl (.mt b) o n c ∧ Own H el e (.sl (.mt b) o n c) n cs b fm := by
  obtain ⟨o, c, rfl, _⟩ := O.read; exact ⟨o, c, rfl, O⟩
theorem splice_end {cs z a : List AV} {n : Nat} (h : cs.length = n) (hz : z.length = a.length) : splice (cs ++ z) n a = cs ++ a := by
  have := splice_mid (c1 := cs) (a := z) (a' := a) (c2 := []) h hz.symm
  simpa using this
end Go.VI
