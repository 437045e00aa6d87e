/-
  Where the abstract machine writes, the model writes.
-/
import Derived.Test.YtenfjdkeikjhlaaViJ
import Derived.Laws.IdiomCopy
set_option autoImplicit false
set_option linter.unusedVariables false
namespace Go.VI
open Go.RowKit

/-- The world goes on: what had a place keeps it, what had none is as it was. -/
structure Moves (P : Program) (w0 : World) (β β' : Bt) (H H' : AH) (w' : World) : Prop where
  le : β.le β'
  rel : Rel P w0 β' H' w'
  n : H.n ≤ H'.n
  unm : ∀ b, b < H.n → β b = none → β' b = none ∧ H'.o.get b = H.o.get b

section
variable {P : Program} {w w' w0 : World} {β β' : Bt} {H H' : AH} {nt : Nat} {e : Env} {a : Act} {M : Mem}

theorem one_sound {x : AV} {v : Value} (h : x.one = true) (hv : VR β M x v) : v.oneCell' = true := by
  cases hv <;> first | rfl | cases h
theorem ones_sound : ∀ {xs : List AV} {vs : List Value}, ones xs = true → VRs β M xs vs → ∀ v ∈ vs, v.oneCell' = true
  | [], vs, h, hv, v, hm => by cases hv; cases hm
  | x :: r, vs, h, hv, v, hm => by
    cases hv with | cons _ y _ s h1 h2 =>
    simp only [ones] at h
    split at h
    · rename_i ho
      rcases List.mem_cons.1 hm with rfl | hm
      · exact one_sound ho h1
      · exact ones_sound h h2 v hm
    · cases h
theorem setCells_heap : ∀ (vs : List Value) (b o : Nat) (w : World) (cc : Array Value) (el : TypeId) (fz : Nat × Nat), w.heap[b]? = some (.cells cc el fz) → o + vs.length ≤ cc.size →
    (w.setCells b o vs).heap[b]? = some (.cells (cc.toList.take o ++ vs ++ cc.toList.drop (o + vs.length)).toArray el fz)
  | [], b, o, w, cc, el, fz, h, hl => by simp [World.setCells, h]
  | v :: r, b, o, w, cc, el, fz, h, hl => by
    simp only [List.length_cons] at hl
    have h1 : (w.setCell ⟨b, o, none⟩ v).heap[b]? = some (.cells (cc.setIfInBounds o v) el fz) := by
      simp [World.setCell, Array.getElem?_modify, h]
    have := setCells_heap r b (o + 1) _ _ el fz h1 (by simp; omega)
    simp only [World.setCells]
    rw [this]
    congr 3
    simp only [Array.toList_setIfInBounds, List.length_cons]
    rw [List.set_eq_take_append_cons_drop, if_pos (by simp; omega)]
    have e3 : (cc.toList.take o).length = o := by simp; omega
    have e1 : (cc.toList.take o ++ v :: cc.toList.drop (o + 1)).take (o + 1) = cc.toList.take o ++ [v] := by
      conv => lhs; rw [show o + 1 = (cc.toList.take o).length + 1 from by rw [e3]]
      rw [List.take_length_add_append]
      rw [e3]; rfl
    have e2 : (cc.toList.take o ++ v :: cc.toList.drop (o + 1)).drop (o + 1 + r.length) = cc.toList.drop (o + (r.length + 1)) := by
      conv => lhs; rw [show o + 1 + r.length = (cc.toList.take o).length + (r.length + 1) from by rw [e3]; omega]
      rw [List.drop_length_add_append]
      simp only [List.drop_succ_cons, List.drop_drop]
      congr 1
      omega
    rw [e1, e2]; simp
theorem setCells_other : ∀ (vs : List Value) (b o : Nat) (w : World) (k : Nat), k ≠ b → (w.setCells b o vs).heap[k]? = w.heap[k]?
  | [], b, o, w, k, h => rfl
  | v :: r, b, o, w, k, h => by
    simp only [World.setCells]
    rw [setCells_other r b (o + 1) _ k h]
    simp [World.setCell, Array.getElem?_modify, Ne.symm h]
theorem setCells_rest : ∀ (vs : List Value) (b o : Nat) (w : World), (w.setCells b o vs).os = w.os ∧ (w.setCells b o vs).tape = w.tape ∧ (w.setCells b o vs).output = w.output ∧ (w.setCells b o vs).heap.size = w.heap.size
  | [], b, o, w => ⟨rfl, rfl, rfl, rfl⟩
  | v :: r, b, o, w => by
    simp only [World.setCells]
    obtain ⟨h1, h2, h3, h4⟩ := setCells_rest r b (o + 1) (w.setCell ⟨b, o, none⟩ v)
    exact ⟨h1.trans rfl, h2.trans rfl, h3.trans rfl, h4.trans (by simp [World.setCell])⟩
theorem fz_free {cc : Array Value} {fz : Nat × Nat} (h : fzOk cc fz) {i : Nat} (hi : i < cc.size) : ¬ (fz.1 ≤ i ∧ i < fz.2) := by
  unfold fzOk at h; omega

theorem row_of_write {l : Loc} {off : Nat} {vs : List AV} (h : H.write l off vs = some H') :
    ∃ b cells el op fam, l = .mt b ∧ H.at b = some (.row cells el op fam) ∧ off + vs.length ≤ cells.length ∧ ones vs = true ∧ H'.n = H.n ∧
      H'.o = H.o.set b (.row (splice cells off vs) el op fam) ∧ (fam = none ∧ H'.f = H.f ∨ ∃ f q, fam = some (f, q) ∧ H'.f = H.f.set f (some b, b)) := by
  unfold AH.write at h
  split at h
  · cases h
  · rename_i b
    split at h
    · rename_i cells el op fam hat
      split at h
      · rename_i hb
        injection h with h; subst h
        simp only [Bool.and_eq_true] at hb
        exact ⟨b, cells, el, op, _, rfl, hat, Nat.le_of_ble_eq_true hb.1, hb.2, rfl, rfl, .inl ⟨rfl, rfl⟩⟩
      · rename_i f q hb
        injection h with h; subst h
        simp only [Bool.and_eq_true] at hb
        exact ⟨b, cells, el, op, _, rfl, hat, Nat.le_of_ble_eq_true hb.1, hb.2, rfl, rfl, .inr ⟨f, q, rfl, rfl⟩⟩
      · cases h
    · cases h
theorem splice_length {cells vs : List AV} {off : Nat} (h : off + vs.length ≤ cells.length) : (splice cells off vs).length = cells.length := by
  simp [splice]; omega

/-- May a block be read? -/
def okAt (f : Tr (Option Nat × Nat)) (b : Nat) : AObj → Bool
  | .row _ _ _ (some (fam, _)) => match f.get fam with
    | some (none, _) => true
    | some (some j, _) => decide (j = b)
    | none => false
  | .dead => false
  | _ => true
theorem at_spec {b : Nat} {x : AObj} : H.at b = some x ↔ H.o.get b = some x ∧ okAt H.f b x = true := by
  unfold AH.at
  cases hg : H.o.get b with
  | none => simp
  | some y =>
    cases y with
    | row cells el op fam => cases fam with
      | none => simp only [Option.some.injEq]; constructor
                · rintro rfl; exact ⟨rfl, rfl⟩
                · exact fun h => h.1
      | some fp =>
        obtain ⟨f, q⟩ := fp
        simp only [Option.some.injEq]
        cases hf : H.f.get f with
        | none => simp only [reduceCtorEq, false_iff, not_and]; rintro rfl; simp [okAt, hf]
        | some z =>
          obtain ⟨o, t⟩ := z
          cases o with
          | none => simp only [Option.some.injEq]; constructor
                    · rintro rfl; exact ⟨rfl, by simp [okAt, hf]⟩
                    · exact fun h => h.1
          | some j =>
            by_cases c : j = b
            · simp only [c, if_true, Option.some.injEq]; constructor
              · rintro rfl; exact ⟨rfl, by simp [okAt, hf, c]⟩
              · exact fun h => h.1
            · simp only [c, if_false, reduceCtorEq, false_iff, not_and]; rintro rfl; simp [okAt, hf, c]
    | map es => simp only [Option.some.injEq]; constructor
                · rintro rfl; exact ⟨rfl, rfl⟩
                · exact fun h => h.1
    | siter a q => simp only [Option.some.injEq]; constructor
                   · rintro rfl; exact ⟨rfl, rfl⟩
                   · exact fun h => h.1
    | dead => simp only [reduceCtorEq, Option.some.injEq, false_iff, not_and]; rintro rfl; simp [okAt]
theorem okAt_fam {f : Tr (Option Nat × Nat)} {b : Nat} {x : AObj} : okAt f b x = true ↔ x ≠ .dead ∧ ∀ F q, isRowFam x = some (F, q) → (∃ t, f.get F = some (none, t)) ∨ ∃ t, f.get F = some (some b, t) := by
  cases x with
  | row cells el op fam => cases fam with
    | none => simp [okAt, isRowFam]
    | some fp =>
      obtain ⟨F, q⟩ := fp
      simp only [okAt, ne_eq, reduceCtorEq, not_false_eq_true, isRowFam, Option.some.injEq, Prod.mk.injEq, and_imp, true_and]
      cases hf : f.get F with
      | none => simp [hf]
      | some z =>
        obtain ⟨o, t⟩ := z
        cases o with
        | none => simp [hf]
        | some j => simp [hf]
  | map es => simp [okAt, isRowFam]
  | siter a q => simp [okAt, isRowFam]
  | dead => simp [okAt]

/-- What may be read behind a write. -/
theorem at_write {b : Nat} {cells' : List AV} {el : TypeId} {op : Bool} {fam : Option (Nat × Nat)} (ho : H'.o = H.o.set b (.row cells' el op fam))
    (hf : fam = none ∧ H'.f = H.f ∨ ∃ f q, fam = some (f, q) ∧ H'.f = H.f.set f (some b, b)) :
    ∀ j x, j ≠ b → H'.at j = some x → H.at j = some x ∧ (∀ f q q', fam = some (f, q) → isRowFam x ≠ some (f, q')) := by
  intro j x hj h
  rw [at_spec] at h ⊢
  obtain ⟨h1, h2⟩ := h
  rw [ho, Tr.get_set_ne _ _ hj] at h1
  rw [okAt_fam] at h2 ⊢
  rcases hf with ⟨rfl, hf⟩ | ⟨f, q, rfl, hf⟩
  · rw [hf] at h2
    exact ⟨⟨h1, h2⟩, fun f q q' e => by cases e⟩
  · rw [hf] at h2
    have key : ∀ F q', isRowFam x = some (F, q') → F ≠ f := fun F q' e c => by
      subst c
      rcases h2.2 F q' e with ⟨t, ht⟩ | ⟨t, ht⟩
      · rw [Tr.get_set_eq] at ht; cases ht
      · rw [Tr.get_set_eq] at ht; injection ht with ht; injection ht with ht _; injection ht with ht; exact hj ht.symm
    refine ⟨⟨h1, h2.1, fun F q' e => ?_⟩, fun f' q0 q' e hx => ?_⟩
    · have := h2.2 F q' e
      rwa [Tr.get_set_ne _ _ (key F q' e)] at this
    · injection e with e; injection e with e1 e2; subst e1
      exact key _ _ hx rfl

theorem write_sound (R : Rel P w0 β H w) {l : Loc} {off c o : Nat} {vs : List AV} {ws : List Value} (h : H.write l off vs = some H') (hl : LocR β (memOf w0) l c o) (hv : VRs β (memOf w0) vs ws) :
    ∃ w', (storeCells ⟨c, o + off, none⟩ ws).run P w = .ok () w' ∧ Moves P w0 β β H H' w' := by
  obtain ⟨b, cells, el, op, fam, rfl, hat, hle, hone, hn, ho, hf⟩ := row_of_write h
  cases hl with | mt _ p hb =>
  obtain ⟨g1, g2, g3, cc, el', fz, g4, g5, g6, us, g7, g8⟩ := R.row hb hat
  have hlen := hv.length
  have husl := g7.length
  obtain ⟨d1, d2, d3, d4, d5⟩ := R.dom b p hb
  have hin : p.o + off + ws.length ≤ cc.size := by omega
  have hrun := run_storeCells_cells (P := P) p.c (p.o + off) ws 0 w
    (fun j hj => by rw [Nat.add_zero, cell_at g4]; simp; omega)
    (fun j hj => by
      simp only [World.frozen?, g4, Nat.add_zero]
      have := fz_free g5 (i := p.o + off + j) (by omega)
      simp only [Bool.and_eq_false_iff, decide_eq_false_iff_not]; omega)
    (ones_sound hone hv)
  rw [Nat.add_zero] at hrun
  obtain ⟨r1, r2, r3, r4⟩ := setCells_rest ws p.c (p.o + off) w
  have hnew := setCells_heap ws p.c (p.o + off) w cc el' fz g4 hin
  have hoth := fun k => setCells_other ws p.c (p.o + off) w k
  refine ⟨_, hrun, Bt.le_refl _, ?_, Nat.le_of_eq hn.symm, fun j hj hjn => ⟨hjn, by rw [ho, Tr.get_set_ne _ _ (fun e => by subst e; rw [hb] at hjn; cases hjn)]⟩⟩
  have hself : ∀ x, H'.at b = some x → x = .row (splice cells off vs) el op fam := fun x hx => by
    have := (at_spec.1 hx).1
    rw [ho, Tr.get_set_eq] at this
    exact (Option.some.inj this).symm
  have hobj : ObjR P β (memOf w0) (w.setCells p.c (p.o + off) ws) p (.row (splice cells off vs) el op fam) := by
    refine ⟨by rw [splice_length hle]; exact g1, g2, g3, _, el', fz, hnew, ?_, ?_, us.take off ++ ws ++ us.drop (off + ws.length), g7.splice hv off, fun i v e => ?_⟩
    · unfold fzOk at g5 ⊢; simp; omega
    · simp; omega
    · have hu : us.length = cells.length := husl.symm
      simp only [List.getElem?_toArray]
      by_cases c1 : i < off
      · rw [List.append_assoc, List.getElem?_append_left (by simp; omega), List.getElem?_take_of_lt c1] at e
        have := g8 i v e
        rw [List.append_assoc, List.getElem?_append_left (by simp; omega), List.getElem?_take_of_lt (by omega)]
        simpa using this
      · by_cases c2 : i < off + ws.length
        · rw [List.append_assoc, List.getElem?_append_right (by simp; omega), List.getElem?_append_left (by simp; omega)] at e
          rw [List.append_assoc, List.getElem?_append_right (by simp; omega), List.getElem?_append_left (by simp; omega)]
          rw [← e]; congr 1; simp; omega
        · rw [List.append_assoc, List.getElem?_append_right (by simp; omega), List.getElem?_append_right (by simp; omega), List.getElem?_drop] at e
          rw [List.append_assoc, List.getElem?_append_right (by simp; omega), List.getElem?_append_right (by simp; omega), List.getElem?_drop]
          have := g8 i v (by rw [← e]; congr 1; simp; omega)
          rw [← Array.getElem?_toList] at this
          rw [← this]; congr 1; simp; omega
  refine ⟨⟨r1.trans R.below.os, r2.trans R.below.tape, r3.trans R.below.output, by rw [r4]; exact R.below.size, fun k hk => by rw [hoth k (by omega)]; exact R.below.block k hk⟩, fun j q hj => by rw [hn, r4]; exact R.dom j q hj, fun j q x hj hx => ?_, fun j j' q q' x x' hj hj' hx hx' hne hc => ?_, fun f t j q cs e1 o1 hft hjg => ?_, fun j hj => ?_, fun f hfn => ?_, fun j x hx hj => ?_, fun j x f q hx hq => ?_⟩
  · by_cases c : j = b
    · subst c
      rw [hb] at hj; injection hj with hj; subst hj
      rw [hself x hx]; exact hobj
    · obtain ⟨hx', hk⟩ := at_write ho hf j x c hx
      have hne : q.c ≠ p.c := fun e => by
        obtain ⟨F, q1, q2, e1, e2, _⟩ := R.apart j b q p x _ hj hb hx' hat c e
        rcases hf with ⟨rfl, _⟩ | ⟨F', q3, rfl, _⟩
        · cases e2
        · injection e2 with e2; injection e2 with e2 e3; subst e2
          exact hk _ _ _ rfl e1
      exact (R.obj j q x hj hx').keep (Bt.le_refl _) (hoth _ hne)
  · by_cases c : j = b
    · subst c
      have c' : j' ≠ j := fun e => hne e.symm
      obtain ⟨hx2, hk⟩ := at_write ho hf j' x' c' hx'
      have e0 := hself x hx
      subst e0
      obtain ⟨F, q1, q2, e1, e2, e3⟩ := R.apart j j' q q' _ x' hj hj' hat hx2 hne hc
      exact ⟨F, q1, q2, e1, e2, e3⟩
    · obtain ⟨hx1, hk⟩ := at_write ho hf j x c hx
      by_cases c' : j' = b
      · subst c'
        have e0 := hself x' hx'
        subst e0
        obtain ⟨F, q1, q2, e1, e2, e3⟩ := R.apart j j' q q' x _ hj hj' hx1 hat hne hc
        exact ⟨F, q1, q2, e1, e2, e3⟩
      · exact R.apart j j' q q' x x' hj hj' hx1 (at_write ho hf j' x' c' hx').1 hne hc
  · have hft' : H.f.get f = some (none, t) := by
      rcases hf with ⟨_, hf⟩ | ⟨F, q1, _, hf⟩
      · rwa [hf] at hft
      · rw [hf] at hft
        by_cases c : f = F
        · subst c; rw [Tr.get_set_eq] at hft; cases hft
        · rwa [Tr.get_set_ne _ _ c] at hft
    -- the same rows, of the same lengths
    have same : ∀ k cs e1 o1 q1, H'.o.get k = some (.row cs e1 o1 (some (f, q1))) → ∃ cs', H.o.get k = some (.row cs' e1 o1 (some (f, q1))) ∧ cs'.length = cs.length := by
      intro k cs e1 o1 q1 hk
      rw [ho] at hk
      by_cases c : k = b
      · subst c
        rw [Tr.get_set_eq] at hk
        injection hk with hk; injection hk with h1 h2 h3 h4
        subst h1; subst h2; subst h3; subst h4
        exact ⟨cells, (at_spec.1 hat).1, (splice_length hle).symm⟩
      · rw [Tr.get_set_ne _ _ c] at hk; exact ⟨cs, hk, rfl⟩
    have back : ∀ k cs e1 o1 q1, H.o.get k = some (.row cs e1 o1 (some (f, q1))) → ∃ cs', H'.o.get k = some (.row cs' e1 o1 (some (f, q1))) ∧ cs'.length = cs.length := by
      intro k cs e1 o1 q1 hk
      by_cases c : k = b
      · subst c
        rw [(at_spec.1 hat).1] at hk
        injection hk with hk; injection hk with h1 h2 h3 h4
        subst h1; subst h2; subst h3; subst h4
        exact ⟨_, by rw [ho, Tr.get_set_eq], splice_length hle⟩
      · exact ⟨cs, by rw [ho, Tr.get_set_ne _ _ c]; exact hk, rfl⟩
    obtain ⟨cs', hj', hl'⟩ := same j cs e1 o1 q hjg
    obtain ⟨q2, cs2, e2, o2, ht, hle2⟩ := R.tip f t j q cs' e1 o1 hft' hj'
    obtain ⟨cs3, ht3, hl3⟩ := back t cs2 e2 o2 q2 ht
    exact ⟨q2, cs3, e2, o2, ht3, by omega⟩
  · rw [ho, Tr.get_set_ne _ _ (by omega)]; exact R.wf j (by omega)
  · rcases hf with ⟨_, hf⟩ | ⟨F, q1, rfl, hf⟩
    · rw [hf]; exact R.wff f (by omega)
    · rw [hf]
      have hF : F < H.n := by
        rcases Nat.lt_or_ge F H.n with h | h
        · exact h
        · have h1 := R.wff F h
          have := (okAt_fam.1 (at_spec.1 hat).2).2 F q1 rfl
          rw [h1] at this
          rcases this with ⟨_, h⟩ | ⟨_, h⟩ <;> cases h
      rw [Tr.get_set_ne _ _ (by omega)]; exact R.wff f (by omega)
  · rw [ho] at hx
    by_cases c : j = b
    · subst c; rw [hb] at hj; cases hj
    · rw [Tr.get_set_ne _ _ c] at hx; exact R.unm j x hx hj
  · rw [ho] at hx
    rw [hn]
    by_cases c : j = b
    · subst c
      rw [Tr.get_set_eq] at hx; injection hx with hx; subst hx
      exact R.fam _ _ f q (at_spec.1 hat).1 hq
    · rw [Tr.get_set_ne _ _ c] at hx; exact R.fam j x f q hx hq
end
end Go.VI
