/-
  Lists that grow, two slices of one's own that take them.
-/
import Derived.Test.YtenfjdkeikjhlaaMark
import Derived.Test.YtenfjdkeikjhlaaVjT
set_option autoImplicit false
set_option linter.unusedVariables false
set_option linter.unusedSimpArgs false
namespace Go.VI
section
variable {P : Program} {orc : CallF} {nt : Nat} {Q Q' : AExit → St → Prop} {s : St}
theorem w_peel {b : Code} (h : WP P orc nt b (thenQ (WP P orc nt (.loop b) Q) Q) s) : WP P orc nt (.loop b) Q s := by
  obtain ⟨x, s', ⟨n, h1⟩, h2⟩ := h
  by_cases hx : x = .normal
  · subst hx
    obtain ⟨y, s2, ⟨m, h3⟩, h4⟩ := (h2 : WP P orc nt (.loop b) Q s')
    refine ⟨y, s2, ⟨max n m + 1, ?_⟩, h4⟩
    simp only [aexec] at h3 ⊢
    simp only [iter]
    rw [aexec_mono (acall_le (show n ≤ max n m + 1 by omega)) (show n ≤ max n m + 1 by omega) b _ _ h1]
    exact iter_mono (fun s r => aexec_mono (acall_le (show m ≤ max n m + 1 by omega)) (show m ≤ max n m + 1 by omega) b s r) m _ _ _ (by omega) h3
  · refine ⟨x, s', ⟨n + 1, ?_⟩, by cases x <;> first | exact absurd rfl hx | exact h2⟩
    simp only [aexec, iter]
    rw [aexec_mono (acall_le (Nat.le_succ n)) (Nat.le_succ n) b _ _ h1]
    cases x <;> first | exact absurd rfl hx | rfl
end
section
variable {P : Program} {orc : CallF} {nt : Nat} {all l : List Oper} {K : St → Prop} {e : Env} {h : AH} {ds : List ADef}
variable {d : Nat} {ty : TypeId} {pos : String} {aft : Array Edge} {g : Option (Nat × Bool)}
/-- append onto nil or a list that is full and closed -/
theorem o_apC {x y : Operand} {t u : TypeId} {dd : TypeDesc} {el : TypeId} {e' by_ n m : Nat} {z v s : AV} {cs new : List AV} (W : Wf h)
    (ht : P.underlying t = some (.slice el)) (hu : P.underlying u = some dd) (hd : isIntT dd = false) (hc : csz P el = some (e' + 1)) (hb : byt P el = some by_) (hz : zeroOf P el = some z) (hzl : z.cells.length = e' + 1)
    (hx : ev e x = some s) (hy : ev e y = some v) (hcl : (s = .nils ∧ n = 0 ∧ cs = []) ∨ ∃ b, s = .sl (.mt b) 0 n n ∧ h.at b = some (.row cs el false none) ∧ cs.length = n * (e' + 1))
    (hsrc : srcCells h (e' + 1) v = some (m, new)) (hnl : new.length = m * (e' + 1)) (h1 : ones new = true) (hm : 1 ≤ m) (hr : (n + m) * (by_ + 1) ≤ 70368744177664)
    (hs : loudK P nt ⟨some d, .call ⟨.builtin .append, #[x, y], #[t, u]⟩, ty, pos, aft, g⟩ = true) (hw : wantedA all e ⟨some d, .call ⟨.builtin .append, #[x, y], #[t, u]⟩, ty, pos, aft, g⟩ = true)
    (k : ∀ s' H', Own H' el (e' + 1) s' (n + m) (cs ++ new) h.n none → Wf H' → H'.n = h.n + 1 → Ext h H' → WO P orc nt all l K ⟨e.set d s', H', ds⟩) :
    WO P orc nt all (⟨some d, .call ⟨.builtin .append, #[x, y], #[t, u]⟩, ty, pos, aft, g⟩ :: l) K ⟨e, h, ds⟩ := by
  rcases hcl with ⟨rfl, rfl, rfl⟩ | ⟨b, rfl, ha, hl⟩
  · refine o_apN W ht hu hd hc hb hz hzl hx hy hsrc hnl h1 hm (by simpa using hr) hs hw fun s' H' O W' hn E => k s' H' (by simpa using O) W' hn E
  · have hpush : isRowFam (.row (cs ++ new) el true none) = none := rfl
    have hall : (cs ++ new).length = (n + m) * (e' + 1) := by rw [List.length_append, hl, hnl, Nat.add_mul]
    refine o_loud (o := ⟨some d, .call ⟨.builtin .append, #[x, y], #[t, u]⟩, ty, pos, aft, g⟩) (v := freshSl h.n (n + m) (n + m)) (h' := h.push (.row (cs ++ new) el true none)) hs hw ?_
      (k (freshSl h.n (n + m) (n + m)) (h.push (.row (cs ++ new) el true none)) ⟨0, n + m, cs ++ new, true, none, rfl, at_push_eq rfl (by simp), rfl, by omega, by rw [List.drop_zero, List.take_of_length_le (by omega)], Nat.le_refl _, by omega⟩ (Ext.push W hpush).wf rfl (Ext.push W hpush))
    have h3 : Nat.beq z.cells.length (e' + 1) = true := by rw [hzl]; exact Nat.beq_refl _
    have hm0 : Nat.beq m 0 = false := by cases m with | zero => omega | succ _ => rfl
    have hrm : room (n + m) by_ = true := room_of hr
    have hnc : Nat.ble (n + m) n = false := by
      cases hq : Nat.ble (n + m) n with
      | false => rfl
      | true => have := Nat.le_of_ble_eq_true hq; omega
    have hle : Nat.ble (0 + n * (e' + 1)) cs.length = true := bleT (by omega)
    have htk : (cs.drop 0).take (n * (e' + 1)) = cs := by rw [List.drop_zero, List.take_of_length_le (by omega)]
    simp only [loudOp, doCall, doBuiltin, doAppend, ht, hu, hx, hy, hd, appendBy, hc, hb, hz, h3, hsrc, h1, appendA, appendMt, ha, hnc, hm0, hrm, hle, Bool.not_false, Bool.true_or, Bool.and_self, growRow, Bool.false_and, htk, newRowA, valH]
end
theorem SA.srcC {H : AH} {l : List V} {s : AV} (h : SA H l s) : ∃ cs, srcCells H 3 s = some (l.length, cs) ∧ LA H l cs := by
  cases h with
  | nil => exact ⟨[], rfl, .nil⟩
  | sl _ loc off cap cs hr hc hb h => exact ⟨cs, by simp only [srcCells, hr], h⟩
/-- a list of one's own kind, closed and full -/
theorem FSl.closed {H : AH} {bs : List Nat} {l : List V} {s : AV} (h : FSl H 0 bs l s) : ∃ cs, LA H l cs ∧ ((s = .nils ∧ l.length = 0 ∧ cs = []) ∨ ∃ b, s = .sl (.mt b) 0 l.length l.length ∧ H.at b = some (.row cs 24 false none) ∧ cs.length = l.length * (2 + 1)) := by
  cases h with
  | nil => exact ⟨[], .nil, .inl ⟨rfl, rfl, rfl⟩⟩
  | sl b bs _ cs sp ha hs hb h =>
    have : sp = [] := List.eq_nil_of_length_eq_zero (by omega)
    subst this
    rw [List.append_nil] at ha
    exact ⟨cs, h.la, .inr ⟨b, rfl, ha, h.len⟩⟩
/-- all is kept but what two slices of one's own may have changed -/
structure K2 (b : Nat) (f : Option Nat) (b' : Nat) (f' : Option Nat) (H H' : AH) : Prop where
  n : H.n ≤ H'.n
  wf : Wf H'
  keep : ∀ c x, H.at c = some x → c ≠ b → (famid x = none ∨ famid x ≠ f) → c ≠ b' → (famid x = none ∨ famid x ≠ f') → H'.at c = some x
/-- a slice of one's own that has grown since -/
def Nw (H : AH) (b : Nat) (f : Option Nat) (b1 : Nat) (f1 : Option Nat) : Prop := (b1 = b ∨ H.n ≤ b1) ∧ ∀ g, f1 = some g → f = some g ∨ H.n ≤ g
section
variable {b b' b1 b1' b2 : Nat} {f f' f1 f1' f2 : Option Nat} {H H' H1 H2 : AH}
theorem K2.ofExt (E : Ext H H') : K2 b f b' f' H H' := ⟨E.n, E.wf, fun c x h _ _ _ _ => E.keep c x h⟩
theorem K2.first (K : Keeps H H' b f) (hn : H.n ≤ H'.n) (W : Wf H') : K2 b f b' f' H H' := ⟨hn, W, fun c x h h1 h2 _ _ => K c x h h1 h2⟩
theorem K2.second (K : Keeps H H' b' f') (hn : H.n ≤ H'.n) (W : Wf H') : K2 b f b' f' H H' := ⟨hn, W, fun c x h _ _ h1 h2 => K c x h h1 h2⟩
theorem Nw.refl : Nw H b f b f := ⟨.inl rfl, fun g h => .inl h⟩
theorem Nw.step (hn : b1 = b ∨ b1 = H.n) (hf : f1 = none ∨ f1 = f ∨ f1 = some H.n) : Nw H b f b1 f1 := ⟨hn.imp id (fun h => by omega), fun g hg => by
  rcases hf with h | h | h
  · rw [h] at hg; cases hg
  · exact .inl (by rw [← h]; exact hg)
  · rw [h] at hg; injection hg with hg; exact .inr (by omega)⟩
theorem Nw.later (h : Nw H1 b f b1 f1) (hn : H.n ≤ H1.n) : Nw H b f b1 f1 := ⟨h.1.imp id (fun h => by omega), fun g hg => (h.2 g hg).imp id (fun h => by omega)⟩
theorem Nw.trans (h : Nw H b f b1 f1) (k : Nw H1 b1 f1 b2 f2) (hn : H.n ≤ H1.n) : Nw H b f b2 f2 := by
  refine ⟨?_, fun g hg => ?_⟩
  · rcases k.1 with e | e
    · rw [e]; exact h.1
    · exact .inr (by omega)
  · rcases k.2 g hg with e | e
    · exact h.2 g e
    · exact .inr (by omega)
theorem K2.trans (W : Wf H) (h : K2 b f b' f' H H1) (n1 : Nw H b f b1 f1) (n2 : Nw H b' f' b1' f1') (k : K2 b1 f1 b1' f1' H1 H2) : K2 b f b' f' H H2 := ⟨Nat.le_trans h.n k.n, k.wf, fun c x hx h1 h2 h3 h4 => by
  have hc := W.lt hx
  have fam : ∀ {f f1 : Option Nat}, (∀ g, f1 = some g → f = some g ∨ H.n ≤ g) → (famid x = none ∨ famid x ≠ f) → (famid x = none ∨ famid x ≠ f1) := fun hh h => by
    cases hx2 : famid x with
    | none => exact .inl rfl
    | some g =>
      refine .inr fun e => ?_
      have := W.famlt hx hx2
      rcases hh g e.symm with e2 | e2
      · rw [hx2, e2] at h; rcases h with h | h
        · cases h
        · exact h rfl
      · omega
  refine k.keep c x (h.keep c x hx h1 h2 h3 h4) ?_ (fam n1.2 h2) ?_ (fam n2.2 h4)
  · rcases n1.1 with e | e
    · omega
    · omega
  · rcases n2.1 with e | e
    · omega
    · omega⟩
theorem New.nw {H0 : AH} (N : New H0 b f) (h : Nw H b f b1 f1) (hn : H0.n ≤ H.n) : New H0 b1 f1 := ⟨by rcases h.1 with e | e <;> have := N.1 <;> omega, fun g hg => by
  rcases h.2 g hg with e | e
  · exact N.2 g e
  · omega⟩
theorem Ext.k2 {H0 : AH} (W0 : Wf H0) (E : Ext H0 H) (N : New H0 b f) (N' : New H0 b' f') (K : K2 b f b' f' H H') : Ext H0 H' := ⟨Nat.le_trans E.n K.n, K.wf, fun c x h => by
  have hc := W0.lt h
  have fam : ∀ {f : Option Nat}, (∀ g, f = some g → H0.n ≤ g) → (famid x = none ∨ famid x ≠ f) := fun hh => by
    cases hx2 : famid x with
    | none => exact .inl rfl
    | some g =>
      refine .inr fun e => ?_
      have := W0.famlt h hx2
      have := hh g e.symm
      omega
  exact K.keep c x (E.keep c x h) (by have := N.1; omega) (fam N.2) (by have := N'.1; omega) (fam N'.2)⟩
theorem Own.k2 {el e n : Nat} {s : AV} {cs : List AV} {c : Nat} {fc : Option Nat} (O : Own H el e s n cs c fc) (K : K2 b f b' f' H H') (A : Apart c fc b f) (A' : Apart c fc b' f') : Own H' el e s n cs c fc :=
  O.keep fun x hx hf => K.keep _ _ hx A.1 (by rw [hf]; exact A.2) A'.1 (by rw [hf]; exact A'.2)
/-- Lists of trees. -/
inductive SLs (H : AH) : List (List V) → List AV → Prop where
  | nil : SLs H [] []
  | cons (l : List V) (s : AV) (ls : List (List V)) (ss : List AV) (h : SA H l s) (k : SLs H ls ss) : SLs H (l :: ls) (s :: ss)
theorem SLs.snoc {l : List V} {s : AV} (h : SA H l s) : ∀ {ls : List (List V)} {ss : List AV}, SLs H ls ss → SLs H (ls ++ [l]) (ss ++ [s])
  | _, _, .nil => .cons _ _ _ _ h .nil
  | _, _, .cons l' s' ls ss h' k => .cons _ _ _ _ h' (SLs.snoc h k)
theorem SLs.len : ∀ {ls : List (List V)} {ss : List AV}, SLs H ls ss → ss.length = ls.length
  | _, _, .nil => rfl
  | _, _, .cons _ _ _ _ _ k => by simp [SLs.len k]
theorem SLs.get : ∀ {ls : List (List V)} {ss : List AV}, SLs H ls ss → ∀ {i : Nat} (hi : i < ls.length), ∃ s, (ss.drop i).take 1 = [s] ∧ SA H ls[i] s
  | _, _, .cons _ s _ _ h k, 0, _ => ⟨s, rfl, h⟩
  | _, _, .cons _ _ _ _ _ k, i + 1, hi => by
    obtain ⟨s, h1, h2⟩ := SLs.get k (i := i) (by simpa using hi)
    exact ⟨s, by simpa using h1, by simpa using h2⟩
/-- Pairs of lists that read as the same trees, whatever becomes of two slices. -/
def GL (b : Nat) (f : Option Nat) (b' : Nat) (f' : Option Nat) (H : AH) (ls : List (List V)) (co cw : List AV) : Prop := ∀ H2, K2 b f b' f' H H2 → SLs H2 ls co ∧ SLs H2 ls cw
theorem GL.step {ls : List (List V)} {co cw : List AV} (G : GL b f b' f' H ls co cw) (W : Wf H) (K : K2 b f b' f' H H1) (n1 : Nw H b f b1 f1) (n2 : Nw H b' f' b1' f1') : GL b1 f1 b1' f1' H1 ls co cw := fun H2 k => G H2 (K.trans W n1 n2 k)
theorem GL.snoc {H0 : AH} {ls : List (List V)} {co cw : List AV} {l : List V} {s s' : AV} {c1 c2 : List AV} {d d' : Nat} {g g' : Option Nat} (G : GL b f b' f' H ls co cw) (W0 : Wf H0) (E : Ext H0 H) (N : New H0 b f) (N' : New H0 b' f') (hl : l.length ≤ 4611686018427387904)
    (O : Own H 24 3 s l.length c1 d g) (O' : Own H 24 3 s' l.length c2 d' g') (h1 : LA H0 l c1) (h2 : LA H0 l c2) (a1 : Apart d g b f) (a2 : Apart d g b' f') (a3 : Apart d' g' b f) (a4 : Apart d' g' b' f') : GL b f b' f' H (ls ++ [l]) (co ++ [s]) (cw ++ [s']) := fun H2 k => by
  have E2 := Ext.k2 W0 E N N' k
  obtain ⟨g1, g2⟩ := G H2 k
  obtain ⟨o1, p1, rfl, q1, r1⟩ := (O.k2 k a1 a2).read
  obtain ⟨o2, p2, rfl, q2, r2⟩ := (O'.k2 k a3 a4).read
  exact ⟨g1.snoc (.sl _ _ o1 p1 c1 r1 q1 hl (h1.ext E2)), g2.snoc (.sl _ _ o2 p2 c2 r2 q2 hl (h2.ext E2))⟩
end
end Go.VI
