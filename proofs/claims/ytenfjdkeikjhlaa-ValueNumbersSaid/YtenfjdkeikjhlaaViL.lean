/-
  Where the abstract machine lets a slice grow, the model does, in place or not.
-/
import Derived.Test.YtenfjdkeikjhlaaViK
set_option autoImplicit false
set_option linter.unusedVariables false
namespace Go.VI
open Go.RowKit

section
variable {P : Program} {w w' w0 : World} {β β' : Bt} {H H' : AH} {nt : Nat} {e : Env} {a : Act} {M : Mem}

/-- A block has grown: in its own place, behind a bound, or in a new one. -/
structure Grew (w w' : World) (p p' : Pl) (bound : Nat) : Prop where
  os : w'.os = w.os
  tape : w'.tape = w.tape
  output : w'.output = w.output
  size : w.heap.size ≤ w'.heap.size
  cnew : p'.c < w'.heap.size
  other : ∀ k, k ≠ p'.c → w'.heap[k]? = w.heap[k]?
  place : p'.c = w.heap.size ∨ p'.c = p.c ∧ ∀ cc el fz, w.heap[p.c]? = some (.cells cc el fz) → ∃ cc', w'.heap[p.c]? = some (.cells cc' el fz) ∧ cc'.size = cc.size ∧ ∀ i, i < bound → cc'[i]? = cc[i]?

theorem ObjR.grew {p p' q : Pl} {x : AObj} {bound : Nat} (hb : β.le β') (G : Grew w w' p p' bound) (hq : q.c < w.heap.size) (hc : q.c = p'.c → ∃ cells el op fam, x = .row cells el op fam ∧ q.o + cells.length ≤ bound) (h : ObjR P β M w q x) :
    ObjR P β' M w' q x := by
  by_cases c : q.c = p'.c
  · obtain ⟨cells, el, op, fam, rfl, hle⟩ := hc c
    obtain ⟨h1, h2, h3, cc, el', fz, h4, h5, h6, vs, h7, h8⟩ := h
    rcases G.place with hp | ⟨hp, hk⟩
    · omega
    · rw [c, hp] at h4
      obtain ⟨cc', k1, k2, k3⟩ := hk cc el' fz h4
      refine ⟨h1, h2, h3, cc', el', fz, by rw [c, hp]; exact k1, ?_, by omega, vs, h7.mono hb, fun i v e => ?_⟩
      · unfold fzOk at h5 ⊢; omega
      · have hi : i < vs.length := (List.getElem?_eq_some_iff.1 e).1
        have := h7.length
        rw [k3 _ (by omega)]; exact h8 i v e
  · exact h.keep hb (G.other _ c)

/-- The block's cells at its end, the new ones behind them. -/
theorem growEnd_rel (R : Rel P w0 β H w) {b : Nat} {p p' : Pl} {cells all : List AV} {el el' : TypeId} {opn : Bool} {fam : Option (Nat × Nat)} {off : Nat} (hb : β b = some p) (hat : H.at b = some (.row cells el' opn fam))
    (hall : cells.length ≤ off + all.length) (hoff : off ≤ cells.length) (hp : p'.c = w.heap.size ∨ p'.o = p.o + off) (hpn : p'.n ≤ p'.r ∧ 1 ≤ p'.e)
    (G : Grew w w' p p' (p.o + cells.length)) (hobj : ∀ fam', ObjR P (β.upd H.n p') (memOf w0) w' p' (.row all el true fam')) :
    Moves P w0 β (β.upd H.n p') H (growEnd H el b cells el' opn fam off all) w' := by
  have hN : β H.n = none := by
    cases h : β H.n with
    | none => rfl
    | some q => have := (R.dom _ _ h).1; omega
  obtain ⟨hbn, hbc, hbs, hbr, hbe⟩ := R.dom b p hb
  have hbne : b ≠ H.n := by omega
  obtain ⟨hg, hok⟩ := at_spec.1 hat
  obtain ⟨o1, o2, o3, cc, elc, fz, o4, o5, o6, us, o7, o8⟩ := R.row hb hat
  -- what the new heap is
  obtain ⟨F, q0, fs, hH, hcase⟩ : ∃ F q0 fs, growEnd H el b cells el' opn fam off all = growFam H el b cells el' opn q0 off F all fs ∧
      ((fam = none ∧ F = H.n ∧ q0 = 0 ∧ fs = H.f) ∨ (fam = some (F, q0) ∧ H.f.get F = some (none, b) ∧ fs = H.f) ∨ ∃ f, fam = some (f, q0) ∧ F = H.n ∧ fs = H.f.set f (some H.n, H.n)) := by
    unfold growEnd
    split
    · exact ⟨H.n, 0, H.f, rfl, .inl ⟨rfl, rfl, rfl, rfl⟩⟩
    · rename_i f q
      split
      · rename_i t ht
        split
        · rename_i he
          have := Nat.eq_of_beq_eq_true he
          subst this
          exact ⟨f, q, H.f, rfl, .inr (.inl ⟨rfl, ht, rfl⟩)⟩
        · exact ⟨H.n, q, _, rfl, .inr (.inr ⟨f, rfl, rfl, rfl⟩)⟩
      · exact ⟨H.n, q, _, rfl, .inr (.inr ⟨f, rfl, rfl, rfl⟩)⟩
  rw [hH]
  have hFn : F ≤ H.n := by
    rcases hcase with ⟨_, h, _⟩ | ⟨h, _⟩ | ⟨_, _, h, _⟩
    · omega
    · subst h; exact Nat.le_of_lt (R.fam b _ F q0 hg rfl)
    · omega
  have gN : (growFam H el b cells el' opn q0 off F all fs).o.get H.n = some (.row all el true (some (F, q0 + off))) := by simp [growFam, Tr.get_set_eq]
  have gb : (growFam H el b cells el' opn q0 off F all fs).o.get b = some (.row cells el' opn (some (F, q0))) := by
    simp only [growFam]; rw [Tr.get_set_ne _ _ hbne, Tr.get_set_eq]
  have go : ∀ j, j ≠ b → j ≠ H.n → (growFam H el b cells el' opn q0 off F all fs).o.get j = H.o.get j := fun j h1 h2 => by
    simp only [growFam]; rw [Tr.get_set_ne _ _ h2, Tr.get_set_ne _ _ h1]
  have gf : (growFam H el b cells el' opn q0 off F all fs).f.get F = some (none, H.n) := by simp [growFam, Tr.get_set_eq]
  have gf' : ∀ f, f ≠ F → (growFam H el b cells el' opn q0 off F all fs).f.get f = fs.get f := fun f h => by simp only [growFam]; rw [Tr.get_set_ne _ _ h]
  generalize hHd : growFam H el b cells el' opn q0 off F all fs = H' at *
  have hn' : H'.n = H.n + 1 := by rw [← hHd]; rfl
  -- who may be read
  have hread : ∀ j x, j ≠ b → j ≠ H.n → H'.at j = some x → H.at j = some x ∧ (∀ q, isRowFam x = some (F, q) → fam = some (F, q0) ∧ H.f.get F = some (none, b)) ∧ ∀ f q, fam = some (f, q0) → isRowFam x = some (f, q) → f = F := by
    intro j x h1 h2 h
    rw [at_spec, go j h1 h2] at h
    obtain ⟨hx, hk⟩ := h
    rw [okAt_fam] at hk
    have hF : ∀ q, isRowFam x = some (F, q) → fam = some (F, q0) ∧ H.f.get F = some (none, b) := fun q e => by
      have hlt := R.fam j x F q hx e
      rcases hcase with ⟨_, h, _⟩ | ⟨h, h', _⟩ | ⟨_, _, h, _⟩
      · omega
      · exact ⟨h, h'⟩
      · omega
    have hother : ∀ f q, fam = some (f, q0) → isRowFam x = some (f, q) → f = F := fun f q hf e => by
      rcases hcase with ⟨h, _⟩ | ⟨h, _⟩ | ⟨f', h, hF', hfs⟩
      · rw [h] at hf; cases hf
      · rw [h] at hf; injection hf with hf; injection hf with hf _; exact hf.symm
      · rw [h] at hf; injection hf with hf; injection hf with hf _; subst hf
        by_cases c : f' = F
        · exact c
        · exfalso
          have := hk.2 f' q e
          rw [gf' _ c, hfs, Tr.get_set_eq] at this
          rcases this with ⟨t, ht⟩ | ⟨t, ht⟩
          · cases ht
          · injection ht with ht; injection ht with ht _; injection ht with ht; exact h2 ht.symm
    refine ⟨at_spec.2 ⟨hx, okAt_fam.2 ⟨hk.1, fun f q e => ?_⟩⟩, hF, hother⟩
    by_cases c : f = F
    · subst c; exact .inl ⟨b, (hF q e).2⟩
    · have := hk.2 f q e
      rw [gf' _ c] at this
      rcases hcase with ⟨_, _, _, hfs⟩ | ⟨_, _, hfs⟩ | ⟨f', h, hF', hfs⟩
      · rwa [hfs] at this
      · rwa [hfs] at this
      · rw [hfs] at this
        by_cases c' : f = f'
        · subst c'; exact absurd (hother f q h e) c
        · rwa [Tr.get_set_ne _ _ c'] at this
  have hself : ∀ x, H'.at b = some x → x = .row cells el' opn (some (F, q0)) := fun x hx => by
    have := (at_spec.1 hx).1; rw [gb] at this; exact (Option.some.inj this).symm
  have hnew : ∀ x, H'.at H.n = some x → x = .row all el true (some (F, q0 + off)) := fun x hx => by
    have := (at_spec.1 hx).1; rw [gN] at this; exact (Option.some.inj this).symm
  have hle := Bt.le_upd hN p'
  have hcase' : ∀ j q, (β.upd H.n p') j = some q → (j = H.n ∧ q = p') ∨ (j ≠ H.n ∧ β j = some q) := fun j q h => by
    by_cases c : j = H.n
    · subst c; rw [Bt.upd_eq] at h; exact .inl ⟨rfl, (Option.some.inj h).symm⟩
    · rw [Bt.upd_ne _ _ c] at h; exact .inr ⟨c, h⟩
  -- in place: who lies there
  have hin : ∀ j q x, j ≠ b → j ≠ H.n → β j = some q → H'.at j = some x → q.c = p.c → ∃ cs e1 o1 qj, x = .row cs e1 o1 (some (F, qj)) ∧ q.o + q0 = p.o + qj ∧ q.o + cs.length ≤ p.o + cells.length := by
    intro j q x h1 h2 hj hx hc
    obtain ⟨hx', hF, hother⟩ := hread j x h1 h2 hx
    obtain ⟨f, qa, qb, e1, e2, e3⟩ := R.apart j b q p x _ hj hb hx' hat h1 hc
    simp only [isRowFam] at e2
    cases x with
    | row cs e1' o1 fm =>
      simp only [isRowFam] at e1
      subst e1; subst e2
      rcases hcase with ⟨h, _⟩ | ⟨h, ht, hfs⟩ | ⟨f', h, hF', hfs⟩
      · cases h
      · injection h with h; injection h with h3 h4; subst h3; subst h4
        obtain ⟨qt, ct, et, ot, g1, g2⟩ := R.tip f b j qa cs e1' o1 ht (at_spec.1 hx').1
        rw [hg] at g1; injection g1 with g1; injection g1 with g3 _ _ g4
        injection g4 with g4; injection g4 with _ g5
        subst g3; subst g5
        exact ⟨cs, e1', o1, qa, rfl, by omega, by omega⟩
      · injection h with h; injection h with h3 h4; subst h4
        have := hother f qa (by rw [h3]) rfl
        subst this
        have := R.fam j _ f qa (at_spec.1 hx').1 rfl
        omega
    | map _ => cases e1
    | siter _ _ => cases e1
    | dead => cases e1
  have hpc : p'.c = w.heap.size ∨ p'.c = p.c := by rcases G.place with h | ⟨h, _⟩; exact .inl h; exact .inr h
  refine ⟨hle, ⟨⟨G.os.trans R.below.os, G.tape.trans R.below.tape, G.output.trans R.below.output, Nat.le_trans R.below.size G.size, fun k hk => ?_⟩, fun j q h => ?_, fun j q x h hx => ?_, fun j j' q q' x x' h h' hx hx' hne hc => ?_, fun f t j q cs e1 o1 hft hjg => ?_, fun j hj => ?_, fun f hf => ?_, fun j x hx hj => ?_, fun j x f q hx hq => ?_⟩, by omega, fun j hj hjn => ?_⟩
  · rw [G.other k (by have := R.below.size; rcases hpc with h | h <;> omega)]; exact R.below.block k hk
  · rcases hcase' j q h with ⟨rfl, rfl⟩ | ⟨c, h⟩
    · exact ⟨by omega, by have := R.below.size; rcases hpc with h | h <;> omega, G.cnew, hpn⟩
    · obtain ⟨d1, d2, d3, d4⟩ := R.dom j q h
      exact ⟨by omega, d2, by have := G.size; omega, d4⟩
  · rcases hcase' j q h with ⟨rfl, rfl⟩ | ⟨c, h⟩
    · rw [hnew x hx]; exact hobj _
    · by_cases cb : j = b
      · subst cb
        rw [hb] at h; injection h with h; subst h
        rw [hself x hx]
        refine ObjR.grew hle G hbs (fun _ => ⟨_, _, _, _, rfl, Nat.le_refl _⟩) ?_
        exact ⟨o1, o2, o3, cc, elc, fz, o4, o5, o6, us, o7, o8⟩
      · obtain ⟨hx', _, _⟩ := hread j x cb c hx
        refine ObjR.grew hle G (R.dom j q h).2.2.1 (fun hq => ?_) (R.obj j q x h hx')
        have hq' : q.c = p.c := by
          rcases hpc with h1 | h1
          · have := (R.dom j q h).2.2.1; omega
          · omega
        obtain ⟨cs, e1, o1', qj, rfl, _, h3⟩ := hin j q x cb c h hx hq'
        exact ⟨cs, e1, o1', _, rfl, h3⟩
  · -- two of them
    have pairNb : ∀ x, H'.at b = some x → p'.c = p.c → Kin (.row all el true (some (F, q0 + off))) p' x p := fun x hx hc => by
      rw [hself x hx]
      rcases hp with h | h
      · have := (R.dom b p hb).2.2.1; omega
      · exact ⟨F, q0 + off, q0, rfl, rfl, by omega⟩
    have pairNj : ∀ j q x, j ≠ b → j ≠ H.n → β j = some q → H'.at j = some x → p'.c = q.c → Kin (.row all el true (some (F, q0 + off))) p' x q := fun j q x h1 h2 hj hx hc => by
      have hq' : q.c = p.c := by
        rcases hpc with h3 | h3
        · have := (R.dom j q hj).2.2.1; omega
        · omega
      obtain ⟨cs, e1, o1', qj, rfl, h4, _⟩ := hin j q x h1 h2 hj hx hq'
      rcases hp with h | h
      · have := (R.dom j q hj).2.2.1; omega
      · exact ⟨F, q0 + off, qj, rfl, rfl, by omega⟩
    have pairbj : ∀ j q x y, j ≠ b → j ≠ H.n → β j = some q → H'.at j = some x → H'.at b = some y → p.c = q.c → Kin y p x q := fun j q x y h1 h2 hj hx hy hc => by
      obtain ⟨cs, e1, o1', qj, rfl, h4, _⟩ := hin j q x h1 h2 hj hx hc.symm
      rw [hself y hy]
      exact ⟨F, q0, qj, rfl, rfl, by omega⟩
    have flip : ∀ {x y : AObj} {p q : Pl}, Kin x p y q → Kin y q x p := fun ⟨f, a, b, h1, h2, h3⟩ => ⟨f, b, a, h2, h1, h3.symm⟩
    rcases hcase' j q h with ⟨e1, e2⟩ | ⟨c, h1⟩ <;> rcases hcase' j' q' h' with ⟨e3, e4⟩ | ⟨c', h2⟩
    · exact absurd (e1.trans e3.symm) hne
    · subst e1; subst e2
      rw [hnew x hx]
      by_cases cb : j' = b
      · subst cb; rw [hb] at h2; injection h2 with h2; subst h2; exact pairNb x' hx' hc
      · exact pairNj j' q' x' cb c' h2 hx' hc
    · subst e3; subst e4
      rw [hnew x' hx']
      by_cases cb : j = b
      · subst cb; rw [hb] at h1; injection h1 with h1; subst h1; exact flip (pairNb x hx hc.symm)
      · exact flip (pairNj j q x cb c h1 hx hc.symm)
    · by_cases cb : j = b
      · subst cb; rw [hb] at h1; injection h1 with h1; subst h1
        exact pairbj j' q' x' x (fun e => hne e.symm) c' h2 hx' hx hc
      · by_cases cb' : j' = b
        · subst cb'; rw [hb] at h2; injection h2 with h2; subst h2
          exact flip (pairbj j q x x' cb c h1 hx hx' hc.symm)
        · exact R.apart j j' q q' x x' h1 h2 (hread j x cb c hx).1 (hread j' x' cb' c' hx').1 hne hc
  · -- the longest
    by_cases cF : f = F
    · subst cF
      rw [gf] at hft; injection hft with hft; injection hft with _ hft; subst hft
      refine ⟨q0 + off, all, el, true, gN, ?_⟩
      by_cases cb : j = b
      · subst cb; rw [gb] at hjg; injection hjg with hjg; injection hjg with h1 _ _ h2; injection h2 with h2; injection h2 with _ h2
        subst h1; subst h2; omega
      · by_cases cn : j = H.n
        · subst cn; rw [gN] at hjg; injection hjg with hjg; injection hjg with h1 _ _ h2; injection h2 with h2; injection h2 with _ h2
          subst h1; subst h2; omega
        · rw [go j cb cn] at hjg
          have hlt := R.fam j _ f q hjg rfl
          rcases hcase with ⟨_, h, _⟩ | ⟨h, h', _⟩ | ⟨_, _, h, _⟩
          · omega
          · obtain ⟨qt, ct, et, ot, g1, g2⟩ := R.tip f b j q cs e1 o1 h' hjg
            rw [hg] at g1; injection g1 with g1; injection g1 with g3 _ _ g4
            subst h
            injection g4 with g4; injection g4 with _ g5
            subst g3; subst g5
            omega
          · omega
    · rw [gf' f cF] at hft
      have hft' : H.f.get f = some (none, t) := by
        rcases hcase with ⟨_, _, _, hfs⟩ | ⟨_, _, hfs⟩ | ⟨f', h, hF', hfs⟩
        · rwa [hfs] at hft
        · rwa [hfs] at hft
        · rw [hfs] at hft
          by_cases c' : f = f'
          · subst c'; rw [Tr.get_set_eq] at hft; cases hft
          · rwa [Tr.get_set_ne _ _ c'] at hft
      have hjb : j ≠ b := fun c => by subst c; rw [gb] at hjg; injection hjg with hjg; injection hjg with _ _ _ h2; injection h2 with h2; injection h2 with h2 _; exact cF h2.symm
      have hjn : j ≠ H.n := fun c => by subst c; rw [gN] at hjg; injection hjg with hjg; injection hjg with _ _ _ h2; injection h2 with h2; injection h2 with h2 _; exact cF h2.symm
      rw [go j hjb hjn] at hjg
      obtain ⟨qt, ct, et, ot, g1, g2⟩ := R.tip f t j q cs e1 o1 hft' hjg
      have htb : t ≠ b := fun c => by
        subst c; rw [hg] at g1; injection g1 with g1; injection g1 with _ _ _ g4
        rcases hcase with ⟨h, _⟩ | ⟨h, _, _⟩ | ⟨f', h, hF', hfs⟩
        · rw [h] at g4; cases g4
        · rw [h] at g4; injection g4 with g4; injection g4 with g4 _; exact cF g4.symm
        · rw [h] at g4; injection g4 with g4; injection g4 with g4 _; subst g4
          rw [hfs, Tr.get_set_eq] at hft; cases hft
      have htn : t ≠ H.n := fun c => by subst c; rw [R.wf _ (Nat.le_refl _)] at g1; cases g1
      exact ⟨qt, ct, et, ot, by rw [go t htb htn]; exact g1, g2⟩
  · rw [go j (by omega) (by omega)]; exact R.wf j (by omega)
  · rw [gf' f (by omega)]
    rcases hcase with ⟨_, _, _, hfs⟩ | ⟨_, _, hfs⟩ | ⟨f', h, hF', hfs⟩
    · rw [hfs]; exact R.wff f (by omega)
    · rw [hfs]; exact R.wff f (by omega)
    · have := R.fam b _ f' q0 hg (by rw [h]; rfl)
      rw [hfs, Tr.get_set_ne _ _ (by omega)]; exact R.wff f (by omega)
  · by_cases cn : j = H.n
    · subst cn; rw [Bt.upd_eq] at hj; cases hj
    · rw [Bt.upd_ne _ _ cn] at hj
      by_cases cb : j = b
      · subst cb; rw [hb] at hj; cases hj
      · rw [go j cb cn] at hx; exact R.unm j x hx hj
  · by_cases cn : j = H.n
    · subst cn; rw [gN] at hx; injection hx with hx; subst hx; simp only [isRowFam, Option.some.injEq, Prod.mk.injEq] at hq; omega
    · by_cases cb : j = b
      · subst cb; rw [gb] at hx; injection hx with hx; subst hx; simp only [isRowFam, Option.some.injEq, Prod.mk.injEq] at hq; omega
      · rw [go j cb cn] at hx; have := R.fam j x f q hx hq; omega
  · have hjn' : j ≠ H.n := by omega
    have hjb : j ≠ b := fun c => by subst c; rw [hb] at hjn; cases hjn
    exact ⟨by rw [Bt.upd_ne _ _ hjn']; exact hjn, go j hjb hjn'⟩
end
end Go.VI
