/-
  What the abstract machine looks up, the model looks up.
-/
import Derived.Test.YtenfjdkeikjhlaaViC
import Derived.Laws.StructEq
import Derived.Laws.Slices
set_option autoImplicit false
set_option linter.unusedVariables false
namespace Go.VI
open Go.RowKit

section
variable {P : Program} {w : World}
theorem run_csz {t : TypeId} {s : Nat} (h : csz P t = some s) (w : World) : (sizeOf t).run P w = .ok s w := by
  unfold csz at h
  obtain ⟨i, hi, rfl⟩ := Option.map_eq_some_iff.1 h
  simp [sizeOf, typeInfo, hi]
theorem run_byt {t : TypeId} {s : Nat} (h : byt P t = some s) (w : World) : ∃ i : TypeInfo, P.info? t = some i ∧ i.bytes = s := by
  unfold byt at h
  obtain ⟨i, hi, e⟩ := Option.map_eq_some_iff.1 h
  exact ⟨i, hi, e⟩
theorem run_isAgg {t : TypeId} {b : Bool} (h : isAggB P t = some b) (w : World) : (isAgg t).run P w = .ok b w := by
  unfold isAggB at h
  split at h
  · rename_i f hu; injection h with h; subst h; simp [isAgg, run_underlying hu]
  · rename_i n e hu; injection h with h; subst h; simp [isAgg, run_underlying hu]
  · rename_i d h1 h2 hu; injection h with h; subst h
    cases d <;> first | (exact absurd rfl (h1 _)) | (exact absurd rfl (h2 _ _)) | simp [isAgg, run_underlying hu]
  · cases h
theorem add_plain' (c o n : Nat) : (⟨c, o, none⟩ : Addr).add n = ⟨c, o + n, none⟩ := by
  unfold Addr.add; split
  · rename_i h; subst h; rfl
  · rfl

variable {w0 : World} {β : Bt} {H : AH}
theorem Rel.mem (R : Rel P w0 β H w) {c i : Nat} {v : Value} (h : memOf w0 c i = some v) : w.cell? ⟨c, i, none⟩ = some v := by
  unfold memOf at h
  split at h
  · rename_i hc
    rw [← h]; exact World.cell?_of_block (w := w0) (R.below.block c hc)
  · cases h
theorem cell_at {c i : Nat} {cc : Array Value} {el : TypeId} {fz : Nat × Nat} (h : w.heap[c]? = some (.cells cc el fz)) : w.cell? ⟨c, i, none⟩ = cc[i]? := by
  simp [World.cell?, h]
theorem Rel.row (R : Rel P w0 β H w) {b : Nat} {p : Pl} {cells : List AV} {el : TypeId} {op : Bool} {fam : Option (Nat × Nat)} (hb : β b = some p) (h : H.at b = some (.row cells el op fam)) :
    ObjR P β (memOf w0) w p (.row cells el op fam) := R.obj b p _ hb h

theorem cellsOf_sound (R : Rel P w0 β H w) {l : Loc} {c o : Nat} (hl : LocR β (memOf w0) l c o) {cells : List AV} (h : H.cellsOf l = some cells) :
    ∃ vs, VRs β (memOf w0) cells vs ∧ ∀ i v, vs[i]? = some v → w.cell? ⟨c, o + i, none⟩ = some v := by
  cases hl with
  | mt b p hb =>
    simp only [AH.cellsOf] at h
    split at h
    · rename_i cs el op fam hat
      injection h with h; subst h
      obtain ⟨_, _, _, cc, el', fz, hh, _, _, vs, hv, hc⟩ := R.row hb hat
      exact ⟨vs, hv, fun i v e => by rw [cell_at hh]; exact hc i v e⟩
    · cases h
  | im cs vs _ _ hv hm =>
    simp only [AH.cellsOf, Option.some.injEq] at h; subst h
    exact ⟨vs, hv, fun i v e => R.mem (hm i v e)⟩
theorem read_sound (R : Rel P w0 β H w) {l : Loc} {c o off n : Nat} (hl : LocR β (memOf w0) l c o) {cs : List AV} (h : H.read l off n = some cs) :
    cs.length = n ∧ ∃ vs, VRs β (memOf w0) cs vs ∧ ∀ j v, vs[j]? = some v → w.cell? ⟨c, o + off + j, none⟩ = some v := by
  unfold AH.read at h
  split at h
  · rename_i cells hcs
    split at h
    · rename_i hle
      have hle' := Nat.le_of_ble_eq_true hle
      injection h with h; subst h
      obtain ⟨vs, hv, hc⟩ := cellsOf_sound R hl hcs
      refine ⟨by simp; omega, _, (hv.drop off).take n, fun j v e => ?_⟩
      rw [List.getElem?_take] at e
      split at e
      · rw [List.getElem?_drop] at e
        rw [Nat.add_assoc]; exact hc _ _ e
      · cases e
    · cases h
  · cases h
theorem run_cells (c o : Nat) (vs : List Value) (h : ∀ j v, vs[j]? = some v → w.cell? ⟨c, o + j, none⟩ = some v) : (loadCells ⟨c, o, none⟩ vs.length).run P w = .ok vs.toArray w := by
  have := run_loadCells_list (P := P) (w := w) ⟨c, o, none⟩ vs (fun j v e => by rw [add_plain']; exact h j v e)
  simpa using this
end

/-- A look is taken: the world stays. -/
def Gives (P : Program) (w : World) (β : Bt) (M : Mem) (s : Sem Value) (v : AV) : Prop := ∃ v', s.run P w = .ok v' w ∧ VR β M v v'

structure ERel (β : Bt) (M : Mem) (nt : Nat) (e : Env) (a : Act) : Prop where
  size : nt ≤ a.tmps.size
  val : ∀ t, VR β M (e.val t) (a.tmps.getD t undef)
theorem undef_sound {β : Bt} {M : Mem} : VR β M (.tup []) undef := .tup [] [] .nil

section
variable {P : Program} {w w0 : World} {β : Bt} {H : AH} {nt : Nat} {e : Env} {a : Act}
theorem ev_sound {M : Mem} (E : ERel β M nt e a) {x : Operand} {v : AV} (h : ev e x = some v) : VR β M v (a.eval x) := by
  cases x with
  | tmp t => simp only [ev, Option.some.injEq] at h; subst h; exact E.val t
  | const c => exact ofValue_sound h
  | global g => cases h
  | func f => simp only [ev, Option.some.injEq] at h; subst h; exact .fn _ [] [] [] [] .nil .nil
theorem evs_sound {M : Mem} (E : ERel β M nt e a) : ∀ {xs : List Operand} {vs : List AV}, evs e xs = some vs → VRs β M vs (xs.map a.eval)
  | [], vs, h => by simp only [evs, Option.some.injEq] at h; subst h; exact .nil
  | x :: r, vs, h => by
    simp only [evs] at h
    split at h
    · rename_i y l h1 h2
      injection h with h; subst h
      exact .cons _ _ _ _ (ev_sound E h1) (evs_sound E h2)
    · cases h
theorem evParts_sound {M : Mem} (E : ERel β M nt e a) : ∀ {xs : List (Nat × Operand)} {vs : List (Nat × AV)}, evParts e xs = some vs →
    vs.map (·.1) = xs.map (·.1) ∧ VRs β M (vs.map (·.2)) (xs.map fun x => a.eval x.2)
  | [], vs, h => by simp only [evParts, Option.some.injEq] at h; subst h; exact ⟨rfl, .nil⟩
  | (i, x) :: r, vs, h => by
    simp only [evParts] at h
    split at h
    · rename_i y l h1 h2
      injection h with h; subst h
      obtain ⟨h3, h4⟩ := evParts_sound E h2
      exact ⟨by simp [h3], .cons _ _ _ _ (ev_sound E h1) h4⟩
    · cases h
theorem zeroOf_sound {M : Mem} {t : TypeId} {z : AV} (h : zeroOf P t = some z) : ∃ v, (∀ w, (zeroValue t).run P w = .ok v w) ∧ VR β M z v := by
  unfold zeroOf at h
  split at h
  · rename_i i hi
    split at h
    · rename_i v hv
      exact ⟨v, fun w => by simp [zeroValue, typeInfo, hi, hv], ofValue_sound h⟩
    · cases h
  · cases h

theorem beq_dec {α : Type} [BEq α] [LawfulBEq α] [DecidableEq α] (a b : α) : (a == b) = decide (a = b) := by rw [Bool.eq_iff_iff]; simp
/-! part -/
theorem part_sound {M : Mem} {t : TypeId} {cs : List AV} {vs : List Value} {off : Nat} {v : AV} (h : partOf P t cs off = some v) (k : VRs β M cs vs) (w : World) :
    ∃ v', (part t vs.toArray off).run P w = .ok v' w ∧ VR β M v v' := by
  unfold partOf at h
  split at h
  · rename_i s h1 h2
    split at h
    · injection h with h; subst h
      refine ⟨.agg ((vs.drop off).take s).toArray, ?_, .agg _ _ ((k.drop off).take s)⟩
      simp [part, run_isAgg h1, run_csz h2]
    · cases h
  · rename_i h1
    obtain ⟨y, hy, hr⟩ := k.get h
    exact ⟨y, by simp [part, run_isAgg h1, hy], hr⟩
  · cases h

/-! build -/
theorem fill_sound {M : Mem} {place : Nat → Option (Nat × Nat)} : ∀ {ps : List (Nat × AV)} {qs : List (Nat × Value)} {cells res : List AV} {vs : List Value},
    fillA place cells ps = some res → ps.map (·.1) = qs.map (·.1) → VRs β M (ps.map (·.2)) (qs.map (·.2)) → VRs β M cells vs →
    ∃ rs, Instr.fill place vs.toArray qs = some rs.toArray ∧ VRs β M res rs
  | [], [], cells, res, vs, h, _, _, k => by simp only [fillA, Option.some.injEq] at h; subst h; exact ⟨vs, rfl, k⟩
  | [], q :: qs, _, _, _, _, h1, _, _ => by simp at h1
  | p :: ps, [], _, _, _, _, h1, _, _ => by simp at h1
  | (i, x) :: ps, (j, y) :: qs, cells, res, vs, h, h1, h2, k => by
    simp only [List.map_cons, List.cons.injEq] at h1
    obtain ⟨rfl, h1⟩ := h1
    simp only [List.map_cons] at h2
    cases h2 with
    | cons _ _ _ _ hx h2 =>
      simp only [fillA] at h
      split at h
      · cases h
      · rename_i off size hp
        split at h
        · rename_i hc
          obtain ⟨hc1, hc2⟩ := hc
          have hcl := hx.cells
          have hl1 : y.cells.size = size := by have := hcl.length; simp at this; omega
          have hl2 := k.length
          obtain ⟨rs, e1, e2⟩ := fill_sound h h1 h2 (k.splice hcl off)
          refine ⟨rs, ?_, e2⟩
          simp only [Instr.fill, hp, hl1]
          rw [if_neg (by simp; omega)]
          rw [← e1]
          congr 1
          apply Array.ext'
          have key : ∀ (ys : List Value) (off : Nat) (zs : List Value) (n : Nat), off + n + ys.length ≤ zs.length →
              ((ys.zipIdx n).foldl (fun cs (c, j) => cs.setIfInBounds (off + j) c) zs.toArray).toList = zs.take (off + n) ++ ys ++ zs.drop (off + n + ys.length) := by
            intro ys
            induction ys with
            | nil => intro off zs n hn; simp
            | cons y ys ih =>
              intro off zs n hn
              simp only [List.length_cons] at hn
              simp only [List.zipIdx_cons, List.foldl_cons]
              have e : zs.toArray.setIfInBounds (off + n) y = (zs.set (off + n) y).toArray := by simp
              rw [e, ih off (zs.set (off + n) y) (n + 1) (by simp; omega)]
              rw [List.set_eq_take_append_cons_drop, if_pos (by omega)]
              have e3 : (zs.take (off + n)).length = off + n := by simp; omega
              have e1 : (zs.take (off + n) ++ y :: zs.drop (off + n + 1)).take (off + (n + 1)) = zs.take (off + n) ++ [y] := by
                rw [show off + (n + 1) = (zs.take (off + n)).length + 1 from by rw [e3]; omega, List.take_length_add_append]; rfl
              have e2 : (zs.take (off + n) ++ y :: zs.drop (off + n + 1)).drop (off + (n + 1) + ys.length) = zs.drop (off + n + (ys.length + 1)) := by
                rw [show off + (n + 1) + ys.length = (zs.take (off + n)).length + (ys.length + 1) from by rw [e3]; omega, List.drop_length_add_append]
                simp only [List.drop_succ_cons, List.drop_drop]
                congr 1; omega
              rw [e1, e2]; simp
          have := key y.cells.toList off vs 0 (by simp; omega)
          simp only [Nat.add_zero] at this
          rw [← Array.foldl_toList, Array.toList_zipIdx, this]
        · cases h

theorem places_sound : ∀ {fs : List Field} {pl : List (Nat × Nat)} (w : World), fieldPlaces P fs = some pl → (fs.mapM fun f => do pure (f.offset, ← sizeOf f.type) : Sem (List (Nat × Nat))).run P w = .ok pl w
  | [], pl, w, h => by simp only [fieldPlaces, Option.some.injEq] at h; subst h; simp
  | f :: r, pl, w, h => by
    simp only [fieldPlaces] at h
    split at h
    · rename_i s l h1 h2
      injection h with h; subst h
      have := places_sound w h2
      simp only [List.mapM_cons, Sem.run_bind, run_csz h1, Result.andThen_ok, Sem.run_pure, this]
    · cases h

theorem pick_sound {M : Mem} (E : ERel β M nt e a) {c x y : Operand} {v : AV} (h : doPick e c x y = some v) (w : World) :
    ∃ v', (do pure (if ← asBool (a.eval c) then a.eval x else a.eval y) : Sem Value).run P w = .ok v' w ∧ VR β M v v' := by
  unfold doPick at h
  split at h
  · rename_i h1
    have k := ev_sound E h1
    generalize a.eval c = vc at *
    cases k
    exact ⟨a.eval x, by simp [asBool], ev_sound E h⟩
  · rename_i h1
    have k := ev_sound E h1
    generalize a.eval c = vc at *
    cases k
    exact ⟨a.eval y, by simp [asBool], ev_sound E h⟩
  · cases h

theorem build_sound {M : Mem} (E : ERel β M nt e a) {t : TypeId} {parts : Array (Nat × Operand)} {v : AV} (h : doBuild P e t parts = some v) (w : World) :
    Gives P w β M (Instr.build t (parts.map fun (i, x) => (i, a.eval x))) v := by
  unfold doBuild at h
  split at h
  · rename_i z fields ps h1 h2 h3
    unfold buildStruct at h
    split at h
    · rename_i pl hpl
      obtain ⟨res, hf, rfl⟩ := Option.map_eq_some_iff.1 h
      obtain ⟨zv, hz, hzr⟩ := zeroOf_sound (M := M) (β := β) h1
      obtain ⟨hp1, hp2⟩ := evParts_sound E h3
      have hfs := places_sound w hpl
      obtain ⟨rs, e1, e2⟩ := fill_sound (qs := parts.toList.map fun x => (x.1, a.eval x.2)) hf (by simpa [Function.comp_def] using hp1) (by simpa [Function.comp_def] using hp2) hzr.cells
      refine ⟨.agg rs.toArray, ?_, .agg _ _ e2⟩
      have hm : (fields.mapM fun f => do pure (f.offset, ← sizeOf f.type) : Sem (Array (Nat × Nat))).run P w = .ok pl.toArray w := by
        rw [Array.mapM_eq_mapM_toList, Sem.run_map, hfs]; rfl
      simp only [Instr.build, Sem.run_bind, hz, Result.andThen_ok, run_underlying h2, hm]
      simp only [Array.toList_map, Array.toArray_toList] at e1 ⊢
      have e3 : (fun x => pl.toArray[x]?) = (fun x : Nat => pl[x]?) := by funext x; simp
      rw [e3, e1]; rfl
    · cases h
  · rename_i z n elem ps h1 h2 h3
    unfold buildArray at h
    split at h
    · rename_i s hs
      obtain ⟨res, hf, rfl⟩ := Option.map_eq_some_iff.1 h
      obtain ⟨zv, hz, hzr⟩ := zeroOf_sound (M := M) (β := β) h1
      obtain ⟨hp1, hp2⟩ := evParts_sound E h3
      obtain ⟨rs, e1, e2⟩ := fill_sound (qs := parts.toList.map fun x => (x.1, a.eval x.2)) hf (by simpa [Function.comp_def] using hp1) (by simpa [Function.comp_def] using hp2) hzr.cells
      refine ⟨.agg rs.toArray, ?_, .agg _ _ e2⟩
      simp only [Instr.build, Sem.run_bind, hz, Result.andThen_ok, run_underlying h2, run_csz hs]
      simp only [Array.toList_map, Array.toArray_toList] at e1 ⊢
      rw [e1]; rfl
    · cases h
  · cases h

theorem eqFields_sound {M : Mem} {d : Nat} (ih : ∀ {t : TypeId} {x y : AV} {r : Bool} {vx vy : Value}, eqA P d t x y = some r → VR β M x vx → VR β M y vy → (Op.equalIn d t vx vy).run P w = .ok r w) :
    ∀ {fs : List Field} {xs ys : List AV} {vs ws : List Value} {r : Bool}, eqA.eqFields P (eqA P d) fs xs ys = some r → VRs β M xs vs → VRs β M ys ws →
      (Op.eqFields d vs.toArray ws.toArray fs).run P w = .ok r w
  | [], xs, ys, vs, ws, r, h, _, _ => by simp only [eqA.eqFields, Option.some.injEq] at h; subst h; rfl
  | f :: fs, xs, ys, vs, ws, r, h, hx, hy => by
    simp only [eqA.eqFields] at h
    split at h
    · rename_i hn
      split at h
      · rename_i p q hp hq
        obtain ⟨p', hp1, hp2⟩ := part_sound hp hx w
        obtain ⟨q', hq1, hq2⟩ := part_sound hq hy w
        split at h
        · rename_i he
          simp only [Op.eqFields, if_pos hn, Sem.run_bind, hp1, hq1, ih he hp2 hq2, Result.andThen_ok]
          simpa using eqFields_sound ih h hx hy
        · rename_i he
          injection h with h; subst h
          simp only [Op.eqFields, if_pos hn, Sem.run_bind, hp1, hq1, ih he hp2 hq2, Result.andThen_ok]
          simp
        · cases h
      · cases h
    · rename_i hn
      simp only [Op.eqFields, if_neg hn]
      exact eqFields_sound ih h hx hy

set_option maxHeartbeats 4000000 in
theorem eqA_sound {M : Mem} : ∀ (d : Nat) {t : TypeId} {x y : AV} {r : Bool} {vx vy : Value}, eqA P d t x y = some r → VR β M x vx → VR β M y vy → (Op.equalIn d t vx vy).run P w = .ok r w
  | 0, t, x, y, r, vx, vy, h, _, _ => by cases h
  | d + 1, t, x, y, r, vx, vy, h, hx, hy => by
    unfold eqA at h
    split at h
    all_goals try (cases h; done)
    · rename_i hu
      injection h with h; subst h; cases hx; cases hy; simp [Op.equalIn, run_underlying hu]
    · rename_i hu
      cases hx; cases hy
      split at h
      · rename_i hk; subst hk; injection h with h; subst h; simp only [Op.equalIn, Sem.run_bind, run_underlying hu, Result.andThen_ok, if_true, Sem.run_pure, eqI_eq, beq_dec]
      · cases h
    · rename_i hu
      injection h with h; subst h; cases hx; cases hy
      simp only [Op.equalIn, Sem.run_bind, run_underlying hu, Result.andThen_ok, Sem.run_pure, eqS_eq, beq_toListBytes, ByteArray.toList_eq, beq_dec]
    · rename_i hu
      injection h with h; subst h; cases hx; cases hy; simp [Op.equalIn, run_underlying hu]
    · rename_i hu
      injection h with h; subst h; cases hx; cases hy; simp [Op.equalIn, run_underlying hu]
    · rename_i hu
      injection h with h; subst h; cases hx; cases hy; simp [Op.equalIn, run_underlying hu]
    · rename_i hu
      injection h with h; subst h; cases hx; cases hy; simp [Op.equalIn, run_underlying hu]
    · rename_i hu
      injection h with h; subst h; cases hx; cases hy <;> simp [Op.equalIn, run_underlying hu]
    · rename_i hu
      injection h with h; subst h; cases hx <;> cases hy <;> simp [Op.equalIn, run_underlying hu]
    · rename_i hu
      injection h with h; subst h; cases hx; cases hy; simp [Op.equalIn, run_underlying hu]
    · rename_i hu
      injection h with h; subst h; cases hx; cases hy; simp [Op.equalIn, run_underlying hu]
    · rename_i hu
      injection h with h; subst h; cases hx; cases hy; simp [Op.equalIn, run_underlying hu]
    · rename_i hu
      injection h with h; subst h; cases hx; cases hy; simp [Op.equalIn, run_underlying hu]
    · rename_i hu
      injection h with h; subst h; cases hx; cases hy; simp [Op.equalIn, run_underlying hu]
    · rename_i hu
      injection h with h; subst h; cases hx; cases hy; simp [Op.equalIn, run_underlying hu]
    · rename_i hu
      injection h with h; subst h; cases hx; cases hy; simp [Op.equalIn, run_underlying hu]
    · rename_i hu
      injection h with h; subst h; cases hx; cases hy; simp [Op.equalIn, run_underlying hu]
    · rename_i hu
      injection h with h; subst h; cases hx; cases hy; simp [Op.equalIn, run_underlying hu]
    · rename_i hu
      cases hx with | ifc _ _ vx hx => cases hy with | ifc _ _ vy hy =>
      split at h
      · rename_i hne
        injection h with h; subst h
        simp [Op.equalIn, run_underlying hu, hne]
      · rename_i heq
        have heq := Decidable.of_not_not heq
        subst heq
        split at h
        · rename_i i hi
          split at h
          · rename_i hc
            simp only [Op.equalIn, Sem.run_bind, run_underlying hu, Result.andThen_ok, ne_eq, not_true_eq_false, if_false, typeInfo, run_program, hi, Sem.run_pure, hc, Bool.not_true, Bool.false_eq_true]
            exact eqA_sound d h hx hy
          · cases h
        · cases h
    · rename_i fields xs ys hu
      cases hx with | agg _ vs hx => cases hy with | agg _ ws hy =>
      split at h
      · cases h
      · rename_i hs
        have hs : P.stoodInHeld t = false := by simpa using hs
        have hf : P.fieldsOf t = fields := by simp [Program.fieldsOf, hu]
        rw [run_equalIn_struct w d t _ _ (by rw [hf]; exact hu) hs, hf]
        exact eqFields_sound (fun h1 h2 h3 => eqA_sound d h1 h2 h3) h hx hy
end
end Go.VI
