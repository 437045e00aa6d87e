/-
  append, as the abstract machine has it.
-/
import Derived.Test.YtenfjdkeikjhlaaViL
set_option autoImplicit false
set_option linter.unusedVariables false
namespace Go.VI
open Go.RowKit

section
variable {P : Program} {w w' w0 : World} {β β' : Bt} {H H' : AH} {nt : Nat} {e : Env} {a : Act} {M : Mem}

/-- It grows elsewhere: the old one is no longer looked at. -/
theorem growIn_rel (R : Rel P w0 β H w) {b : Nat} {p p' : Pl} {cells all : List AV} {el el' : TypeId} {opn : Bool} {fam : Option (Nat × Nat)} {bound : Nat} (hb : β b = some p) (hat : H.at b = some (.row cells el' opn fam))
    (hpn : p'.n ≤ p'.r ∧ 1 ≤ p'.e) (G : Grew w w' p p' bound) (hobj : ObjR P (β.upd H.n p') (memOf w0) w' p' (.row all el true none)) :
    Moves P w0 β (β.upd H.n p') H (growIn H el b fam all) w' := by
  have hN : β H.n = none := by
    cases h : β H.n with
    | none => rfl
    | some q => have := (R.dom _ _ h).1; omega
  obtain ⟨hbn, hbc, hbs, hbr, hbe⟩ := R.dom b p hb
  have hbne : b ≠ H.n := by omega
  obtain ⟨hg, hok⟩ := at_spec.1 hat
  have gN : (growIn H el b fam all).o.get H.n = some (.row all el true none) := by simp [growIn, Tr.get_set_eq]
  have gb : (growIn H el b fam all).o.get b = some .dead := by
    simp only [growIn]; rw [Tr.get_set_ne _ _ hbne, Tr.get_set_eq]
  have go : ∀ j, j ≠ b → j ≠ H.n → (growIn H el b fam all).o.get j = H.o.get j := fun j h1 h2 => by
    simp only [growIn]; rw [Tr.get_set_ne _ _ h2, Tr.get_set_ne _ _ h1]
  have gf : (fam = none ∧ (growIn H el b fam all).f = H.f) ∨ ∃ f q, fam = some (f, q) ∧ (growIn H el b fam all).f = H.f.set f (some H.n, H.n) := by
    cases fam with
    | none => exact .inl ⟨rfl, rfl⟩
    | some fq => obtain ⟨f, q⟩ := fq; exact .inr ⟨f, q, rfl, rfl⟩
  generalize hHd : growIn H el b fam all = H' at *
  have hn' : H'.n = H.n + 1 := by rw [← hHd]; rfl
  have hread : ∀ j x, j ≠ H.n → H'.at j = some x → j ≠ b ∧ H.at j = some x ∧ ∀ f q q', fam = some (f, q) → isRowFam x ≠ some (f, q') := by
    intro j x h2 h
    have h1 : j ≠ b := fun c => by
      subst c
      obtain ⟨hx, hk⟩ := at_spec.1 h
      rw [gb] at hx; injection hx with hx; subst hx; cases hk
    rw [at_spec, go j h1 h2] at h
    obtain ⟨hx, hk⟩ := h
    rw [okAt_fam] at hk
    refine ⟨h1, at_spec.2 ⟨hx, okAt_fam.2 ⟨hk.1, fun f q e => ?_⟩⟩, fun f q q' hf e => ?_⟩
    · have := hk.2 f q e
      rcases gf with ⟨_, hfs⟩ | ⟨f', q0, _, hfs⟩
      · rwa [hfs] at this
      · rw [hfs] at this
        by_cases c : f = f'
        · subst c
          rw [Tr.get_set_eq] at this
          rcases this with ⟨t, ht⟩ | ⟨t, ht⟩
          · cases ht
          · injection ht with ht; injection ht with ht _; injection ht with ht; exact absurd ht.symm h2
        · rwa [Tr.get_set_ne _ _ c] at this
    · rcases gf with ⟨h, _⟩ | ⟨f', q0, h, hfs⟩
      · rw [h] at hf; cases hf
      · rw [h] at hf; injection hf with hf; injection hf with hf _; subst hf
        have := hk.2 f' q' e
        rw [hfs, Tr.get_set_eq] at this
        rcases this with ⟨t, ht⟩ | ⟨t, ht⟩
        · cases ht
        · injection ht with ht; injection ht with ht _; injection ht with ht; exact absurd ht.symm h2
  have hapart : ∀ j q x, j ≠ H.n → β j = some q → H'.at j = some x → q.c ≠ p.c := fun j q x h2 hj hx hc => by
    obtain ⟨h1, hx', hk⟩ := hread j x h2 hx
    obtain ⟨f, qa, qb, e1, e2, _⟩ := R.apart j b q p x _ hj hb hx' hat h1 hc
    exact hk f qb qa e2 e1
  have hnew : ∀ x, H'.at H.n = some x → x = .row all el true none := fun x hx => by
    have := (at_spec.1 hx).1; rw [gN] at this; exact (Option.some.inj this).symm
  have hle := Bt.le_upd hN p'
  have hcase' : ∀ j q, (β.upd H.n p') j = some q → (j = H.n ∧ q = p') ∨ (j ≠ H.n ∧ β j = some q) := fun j q h => by
    by_cases c : j = H.n
    · subst c; rw [Bt.upd_eq] at h; exact .inl ⟨rfl, (Option.some.inj h).symm⟩
    · rw [Bt.upd_ne _ _ c] at h; exact .inr ⟨c, h⟩
  have hpc : p'.c = w.heap.size ∨ p'.c = p.c := by rcases G.place with h | ⟨h, _⟩; exact .inl h; exact .inr h
  have hqc : ∀ j q x, j ≠ H.n → β j = some q → H'.at j = some x → q.c ≠ p'.c := fun j q x h2 hj hx hc => by
    rcases hpc with h | h
    · have := (R.dom j q hj).2.2.1; omega
    · exact hapart j q x h2 hj hx (by omega)
  refine ⟨hle, ⟨⟨G.os.trans R.below.os, G.tape.trans R.below.tape, G.output.trans R.below.output, Nat.le_trans R.below.size G.size, fun k hk => ?_⟩, fun j q h => ?_, fun j q x h hx => ?_, fun j j' q q' x x' h h' hx hx' hne hc => ?_, fun f t j q cs e1 o1 hft hjg => ?_, fun j hj => ?_, fun f hf => ?_, fun j x hx hj => ?_, fun j x f q hx hq => ?_⟩, by omega, fun j hj hjn => ?_⟩
  · rw [G.other k (by have := R.below.size; rcases hpc with h | h <;> omega)]; exact R.below.block k hk
  · rcases hcase' j q h with ⟨rfl, rfl⟩ | ⟨c, h⟩
    · exact ⟨by omega, by have := R.below.size; rcases hpc with h | h <;> omega, G.cnew, hpn⟩
    · obtain ⟨d1, d2, d3, d4⟩ := R.dom j q h
      exact ⟨by omega, d2, by have := G.size; omega, d4⟩
  · rcases hcase' j q h with ⟨rfl, rfl⟩ | ⟨c, h⟩
    · rw [hnew x hx]; exact hobj
    · exact (R.obj j q x h (hread j x c hx).2.1).keep hle (G.other _ (hqc j q x c h hx))
  · rcases hcase' j q h with ⟨e1, e2⟩ | ⟨c, h1⟩ <;> rcases hcase' j' q' h' with ⟨e3, e4⟩ | ⟨c', h2⟩
    · exact absurd (e1.trans e3.symm) hne
    · subst e2; exact absurd hc.symm (hqc j' q' x' c' h2 hx')
    · subst e4; exact absurd hc (hqc j q x c h1 hx)
    · exact R.apart j j' q q' x x' h1 h2 (hread j x c hx).2.1 (hread j' x' c' hx').2.1 hne hc
  · have hft' : H.f.get f = some (none, t) ∧ ∀ q, fam ≠ some (f, q) := by
      rcases gf with ⟨h, hfs⟩ | ⟨f', q0, h, hfs⟩
      · rw [hfs] at hft; exact ⟨hft, fun q e => by rw [h] at e; cases e⟩
      · rw [hfs] at hft
        by_cases c' : f = f'
        · subst c'; rw [Tr.get_set_eq] at hft; cases hft
        · rw [Tr.get_set_ne _ _ c'] at hft; exact ⟨hft, fun q e => by rw [h] at e; injection e with e; injection e with e _; exact c' e.symm⟩
    have hjb : j ≠ b := fun c => by subst c; rw [gb] at hjg; cases hjg
    have hjn : j ≠ H.n := fun c => by subst c; rw [gN] at hjg; injection hjg with hjg; injection hjg with _ _ _ h2; cases h2
    rw [go j hjb hjn] at hjg
    obtain ⟨qt, ct, et, ot, g1, g2⟩ := R.tip f t j q cs e1 o1 hft'.1 hjg
    have htb : t ≠ b := fun c => by
      subst c; rw [hg] at g1; injection g1 with g1; injection g1 with _ _ _ g4
      exact hft'.2 qt g4
    have htn : t ≠ H.n := fun c => by subst c; rw [R.wf _ (Nat.le_refl _)] at g1; cases g1
    exact ⟨qt, ct, et, ot, by rw [go t htb htn]; exact g1, g2⟩
  · rw [go j (by omega) (by omega)]; exact R.wf j (by omega)
  · rcases gf with ⟨h, hfs⟩ | ⟨f', q0, h, hfs⟩
    · rw [hfs]; exact R.wff f (by omega)
    · have := R.fam b _ f' q0 hg (by rw [h]; rfl)
      rw [hfs, Tr.get_set_ne _ _ (by omega)]; exact R.wff f (by omega)
  · by_cases cn : j = H.n
    · subst cn; rw [Bt.upd_eq] at hj; cases hj
    · rw [Bt.upd_ne _ _ cn] at hj
      by_cases cb : j = b
      · subst cb; rw [hb] at hj; cases hj
      · rw [go j cb cn] at hx; exact R.unm j x hx hj
  · by_cases cn : j = H.n
    · subst cn; rw [gN] at hx; injection hx with hx; subst hx; cases hq
    · by_cases cb : j = b
      · subst cb; rw [gb] at hx; injection hx with hx; subst hx; cases hq
      · rw [go j cb cn] at hx; have := R.fam j x f q hx hq; omega
  · have hjn' : j ≠ H.n := by omega
    have hjb : j ≠ b := fun c => by subst c; rw [hb] at hjn; cases hjn
    exact ⟨by rw [Bt.upd_ne _ _ hjn']; exact hjn, go j hjb hjn'⟩

/-- Growth certain: a new row, of which nobody knew. -/
theorem newRow_rel (R : Rel P w0 β H w) {p' : Pl} {o : Obj} {x : AObj} (hf : isRowFam x = none) (hd : x ≠ .dead) (hp : p'.c = w.heap.size) (hpn : p'.n ≤ p'.r ∧ 1 ≤ p'.e) (hh : w'.heap = w.heap.push o) (h1 : w'.os = w.os) (h2 : w'.tape = w.tape) (h3 : w'.output = w.output)
    (hobj : ObjR P (β.upd H.n p') (memOf w0) w' p' x) : Moves P w0 β (β.upd H.n p') H (H.push x) w' := by
  have hN : β H.n = none := by
    cases h : β H.n with
    | none => rfl
    | some q => have := (R.dom _ _ h).1; omega
  refine ⟨Bt.le_upd hN p', (R.push hf).place hN (Nat.lt_succ_self _) (by simp [AH.push, Tr.get_set_eq]) hf hp hpn hh h1 h2 h3 hobj, Nat.le_succ _, fun j hj hjn => ?_⟩
  have hjn' : j ≠ H.n := by omega
  exact ⟨by rw [Bt.upd_ne _ _ hjn']; exact hjn, by simp only [AH.push]; rw [Tr.get_set_ne _ _ hjn']⟩

/-! ### The run of append -/
def Firsts (P : Program) (w : World) (size n : Nat) (v : Value) (cs : List Value) : Prop := ∀ w', w'.heap = w.heap → (Builtin.firstCells size n v).run P w' = .ok cs.toArray w'
theorem zeroCells_size (zero : Array Value) (n : Nat) : (Builtin.zeroCells zero n).size = n * zero.size := by simp [Builtin.zeroCells]
set_option maxHeartbeats 4000000 in
theorem append_grow_run {t ty el : TypeId} {u : TypeId} {d : TypeDesc} {e by_ len cap k : Nat} {base : Option Addr} {x : Value} {i : TypeInfo} {zv : Value} {old new : List Value} (hu : P.underlying t = some (.slice el)) (hud : P.underlying u = some d) (hd : isIntT d = false)
    (hs : csz P el = some e) (hi : P.info? el = some i) (hby : i.bytes = by_) (hz : ∀ w, (zeroValue el).run P w = .ok zv w) (hzl : zv.cells.size = e) (hlen : ∀ w, (Builtin.lenOf x).run P w = .ok k w)
    (hgrow : cap < len + k) (hroom : (len + k) * (by_ + 1) ≤ 70368744177664) (hold : Firsts P w e len (.slice base len cap) old) (hnew : Firsts P w e k x new) (hol : old.length = len * e) (hnl : new.length = k * e) :
    ∃ (cap' : Nat) (w' : World) (rest : List Value), len + k ≤ cap' ∧ (Builtin.append_ #[t, u] ty #[.slice base len cap, x]).run P w = .ok (.slice (some ⟨w.heap.size, 0, none⟩) (len + k) cap') w' ∧
      w'.heap = w.heap.push (.cells (old ++ new ++ rest).toArray el) ∧ (old ++ new ++ rest).length = cap' * e ∧ w'.os = w.os ∧ w'.tape = w.tape ∧ w'.output = w.output := by
  have hb : (len + k) * by_ ≤ 70368744177664 := by
    have : (len + k) * by_ ≤ (len + k) * (by_ + 1) := Nat.mul_le_mul_left _ (by omega)
    omega
  have hk : len + k ≤ 70368744177664 := by
    have : (len + k) * 1 ≤ (len + k) * (by_ + 1) := Nat.mul_le_mul_left _ (by omega)
    omega
  have hfit := growslice_fits hgrow (bytes := by_) (by omega)
  refine ⟨(Question.appendCap (len + k) cap el).cut (w.tape w.drawn (.appendCap (len + k) cap el)), { w with drawn := w.drawn + 1, heap := w.heap.push (.cells (old ++ new ++ (Builtin.zeroCells zv.cells ((Question.appendCap (len + k) cap el).cut (w.tape w.drawn (.appendCap (len + k) cap el)) - (len + k))).toList).toArray el) }, (Builtin.zeroCells zv.cells ((Question.appendCap (len + k) cap el).cut (w.tape w.drawn (.appendCap (len + k) cap el)) - (len + k))).toList, by simp [Question.cut], ?_, rfl, ?_, rfl, rfl, rfl⟩
  · have h63' : ¬ (9223372036854775807 < ((len : Int) + (k : Int))) := by omega
    have h48' : ¬ (281474976710656 < Builtin.nextslicecap (len + k) cap * i.bytes) := by rw [hby]; omega
    have hn : ¬ (len + k ≤ cap) := by omega
    have hf := hnew w.drew rfl
    have hfo := hold w.drew rfl
    have hz0 := hz w.drew
    have he : ∀ (x y : List Value) (z : Array Value), x.toArray ++ (y.toArray ++ z) = (x ++ (y ++ z.toList)).toArray := fun x y z => by apply Array.ext'; simp
    cases d <;> first | (cases hd; done) | skip
    all_goals
    simp [Builtin.append_, run_underlying hu, run_underlying hud, run_csz hs, typeInfo, hi, hlen, hn, h63', h48', Question.forced, hf, hfo, hz0, newRow, Question.cut]
    all_goals
      rw [he]; rfl
  · simp only [List.length_append, hol, hnl, Array.length_toList, zeroCells_size, hzl]
    rw [← Nat.add_mul, ← Nat.add_mul]
    congr 1
    simp [Question.cut]
end
end Go.VI
