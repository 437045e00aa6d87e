/-
  What the abstract machine does loudly: stores, maps, append, copy, calls.
-/
import Derived.Test.YtenfjdkeikjhlaaViO
set_option autoImplicit false
set_option linter.unusedVariables false
namespace Go.VI
open Go.RowKit

section
variable {P : Program} {w w' w0 : World} {β β' : Bt} {H H' : AH} {nt : Nat} {e : Env} {a : Act} {M : Mem}

/-- A map's entries are others. -/
theorem mapPut_rel (R : Rel P w0 β H w) {b : Nat} {p : Pl} {es es' : List (AV × AV)} {ces' : Array MapEntry} {clock' : Nat} (hb : β b = some p) (hat : H.at b = some (.map es)) (hE : Ents β (memOf w0) es' ces'.toList) :
    Moves P w0 β β H (H.put b (.map es')) { w with heap := w.heap.setIfInBounds p.c (.map ces' clock') } := by
  obtain ⟨d1, d2, d3, d4, d5⟩ := R.dom b p hb
  obtain ⟨hg, _⟩ := at_spec.1 hat
  have hother : ∀ k, k ≠ p.c → (w.heap.setIfInBounds p.c (.map ces' clock'))[k]? = w.heap[k]? := fun k hk => by
    rw [Array.getElem?_setIfInBounds]; rw [if_neg (Ne.symm hk)]
  have gn : ∀ j, j ≠ b → (H.put b (.map es')).o.get j = H.o.get j := fun j hj => by simp only [AH.put]; rw [Tr.get_set_ne _ _ hj]
  have gb : (H.put b (.map es')).o.get b = some (.map es') := by simp [AH.put, Tr.get_set_eq]
  have hread : ∀ j x, j ≠ b → (H.put b (.map es')).at j = some x → H.at j = some x := fun j x hj h => by
    rw [at_spec, gn j hj] at h; exact at_spec.2 h
  have hself : ∀ x, (H.put b (.map es')).at b = some x → x = .map es' := fun x h => by
    have := (at_spec.1 h).1; rw [gb] at this; exact (Option.some.inj this).symm
  have hne : ∀ j q x, j ≠ b → β j = some q → H.at j = some x → q.c ≠ p.c := fun j q x hj hq hx hc => by
    obtain ⟨f, q1, q2, _, e2, _⟩ := R.apart j b q p x _ hq hb hx hat hj hc
    cases e2
  refine ⟨Bt.le_refl _, ⟨⟨R.below.os, R.below.tape, R.below.output, by simp; exact R.below.size, fun k hk => by rw [hother k (by omega)]; exact R.below.block k hk⟩, fun j q h => by have := R.dom j q h; simpa [AH.put] using this, fun j q x h hx => ?_, fun j j' q q' x x' h h' hx hx' hn hc => ?_, fun f t j q cs e1 o1 hft hjg => ?_, fun j hj => ?_, R.wff, fun j x hx hj => ?_, fun j x f q hx hq => ?_⟩, Nat.le_refl _, fun j hj hjn => ⟨hjn, gn j (fun c => by subst c; rw [hb] at hjn; cases hjn)⟩⟩
  · by_cases c : j = b
    · subst c; rw [hb] at h; injection h with h; subst h
      rw [hself x hx]
      exact ⟨ces', clock', by simp [d3], hE⟩
    · exact (R.obj j q x h (hread j x c hx)).keep (Bt.le_refl _) (hother _ (hne j q x c h (hread j x c hx)))
  · by_cases c : j = b
    · subst c; rw [hb] at h; injection h with h; subst h
      have c' : j' ≠ j := fun e => hn e.symm
      exact absurd hc.symm (hne j' q' x' c' h' (hread j' x' c' hx'))
    · by_cases c' : j' = b
      · subst c'; rw [hb] at h'; injection h' with h'; subst h'
        exact absurd hc (hne j q x c h (hread j x c hx))
      · exact R.apart j j' q q' x x' h h' (hread j x c hx) (hread j' x' c' hx') hn hc
  · have hjb : j ≠ b := fun c => by subst c; rw [gb] at hjg; cases hjg
    rw [gn j hjb] at hjg
    obtain ⟨qt, ct, et, ot, g1, g2⟩ := R.tip f t j q cs e1 o1 hft hjg
    have htb : t ≠ b := fun c => by subst c; rw [hg] at g1; cases g1
    exact ⟨qt, ct, et, ot, by rw [gn t htb]; exact g1, g2⟩
  · have hj : H.n ≤ j := hj
    rw [gn j (by omega)]; exact R.wf j hj
  · by_cases c : j = b
    · subst c; rw [hb] at hj; cases hj
    · rw [gn j c] at hx; exact R.unm j x hx hj
  · by_cases c : j = b
    · subst c; rw [gb] at hx; injection hx with hx; subst hx; cases hq
    · rw [gn j c] at hx; exact R.fam j x f q hx hq

/-! keys -/
theorem findI_find {P : Program} {t : TypeId} {k : AV} : ∀ {es : List (AV × AV)} {r : Option Nat} (i : Nat), findI P t k es i = some r →
    (r = none ∧ findA P t k es = some none) ∨ ∃ j v, r = some (i + j) ∧ j < es.length ∧ findA P t k es = some (some v)
  | [], r, i, h => by simp only [findI, Option.some.injEq] at h; subst h; exact .inl ⟨rfl, rfl⟩
  | (k', v) :: es, r, i, h => by
    simp only [findI] at h
    split at h
    · rename_i hq
      injection h with h; subst h
      exact .inr ⟨0, v, rfl, by simp, by simp [findA, hq]⟩
    · rename_i hq
      rcases findI_find (i + 1) h with ⟨h1, h2⟩ | ⟨j, v', h1, h2, h3⟩
      · exact .inl ⟨h1, by simp [findA, hq, h2]⟩
      · exact .inr ⟨j + 1, v', by rw [h1]; congr 1; omega, by simp; omega, by simp [findA, hq, h3]⟩
    · cases h

theorem findNowI_sound {t : TypeId} {d : TypeDesc} {k : AV} {vk : Value} (hu : P.underlying t = some d) (hok : keyCell P t k = true) (hk : VR β M k vk) :
    ∀ {es : List (AV × AV)} {ces : List MapEntry} {r : Option Nat} (i : Nat), findI P t k es i = some r → Ents β M es ces →
      ∃ r', Instr.findNow d vk ces i = some r' ∧ r'.map (·.1) = r
  | [], [], r, i, h, _ => by simp only [findI, Option.some.injEq] at h; subst h; exact ⟨none, rfl, rfl⟩
  | [], _ :: _, _, _, _, he => he.elim
  | _ :: _, [], _, _, _, he => he.elim
  | (k', v) :: es, c :: ces, r, i, h, he => by
    obtain ⟨h1, h2, h3⟩ := he
    simp only [findI] at h
    split at h
    · rename_i hq
      injection h with h; subst h
      have := keyEq_now hu hok hq hk h1
      exact ⟨some (i, c.val), by simp [Instr.findNow, this], rfl⟩
    · rename_i hq
      have := keyEq_now hu hok hq hk h1
      obtain ⟨r', e1, e2⟩ := findNowI_sound hu hok hk (i + 1) h h3
      exact ⟨r', by simp [Instr.findNow, this, e1], e2⟩
    · cases h
theorem findAskingI_sound {t : TypeId} {cs : List AV} {vk : Value} (hk : VR β M (.agg cs) vk) (w : World) :
    ∀ {es : List (AV × AV)} {ces : List MapEntry} {r : Option Nat} (i : Nat), findI P t (.agg cs) es i = some r → Ents β M es ces →
      ∃ r', (Instr.findAsking t vk ces i).run P w = .ok r' w ∧ r'.map (·.1) = r
  | [], [], r, i, h, _ => by simp only [findI, Option.some.injEq] at h; subst h; exact ⟨none, rfl, rfl⟩
  | [], _ :: _, _, _, _, he => he.elim
  | _ :: _, [], _, _, _, he => he.elim
  | (k', v) :: es, c :: ces, r, i, h, he => by
    obtain ⟨h1, h2, h3⟩ := he
    have key : ∀ b, keyEq P t (.agg cs) k' = some b → (Op.equal t vk c.key).run P w = .ok b w := by
      intro b hb
      cases k' <;> simp only [keyEq] at hb <;> first | (cases hb; done) | (split at hb <;> first | exact eqA_sound 10000 hb hk h1 | cases hb)
    simp only [findI] at h
    split at h
    · rename_i hq
      injection h with h; subst h
      exact ⟨some (i, c.val), by simp [Instr.findAsking, key _ hq], rfl⟩
    · rename_i hq
      obtain ⟨r', e1, e2⟩ := findAskingI_sound hk w (i + 1) h h3
      exact ⟨r', by simp [Instr.findAsking, key _ hq, e1], e2⟩
    · cases h
theorem findKeyI_sound {t : TypeId} {k : AV} {vk : Value} (hok : keyOk P t k = true) (hk : VR β M k vk) (w : World) {es : List (AV × AV)} {ces : List MapEntry} {r : Option Nat} (h : findI P t k es 0 = some r) (he : Ents β M es ces) :
    ∃ r', (Instr.findKey t vk ces).run P w = .ok r' w ∧ r'.map (·.1) = r := by
  unfold keyOk at hok
  split at hok
  · rename_i fields cs hu
    cases es with
    | nil =>
      cases ces with
      | cons _ _ => exact he.elim
      | nil =>
      simp only [findI, Option.some.injEq] at h; subst h
      exact ⟨none, by simp [Instr.findKey, run_underlying hu, Instr.findNow], rfl⟩
    | cons x es =>
      cases ces with
      | nil => exact he.elim
      | cons c ces =>
      obtain ⟨r', e1, e2⟩ := findAskingI_sound hk w 0 h he
      have hnow : Instr.findNow (.struct fields) vk (c :: ces) 0 = none := by simp [Instr.findNow, Instr.sameNow]
      exact ⟨r', by simp only [Instr.findKey, Sem.run_bind, run_underlying hu, Result.andThen_ok, hnow]; exact e1, e2⟩
  · have hu : ∃ d, P.underlying t = some d := by
      unfold keyCell at hok
      cases hu : P.underlying t with
      | none => simp [hu] at hok
      | some d => exact ⟨d, rfl⟩
    obtain ⟨d, hu⟩ := hu
    obtain ⟨r', e1, e2⟩ := findNowI_sound hu hok hk 0 h he
    exact ⟨r', by simp only [Instr.findKey, Sem.run_bind, run_underlying hu, Result.andThen_ok, e1, Sem.run_pure], e2⟩

theorem ents_get : ∀ {es : List (AV × AV)} {ces : List MapEntry}, Ents β M es ces → es.length = ces.length ∧ ∀ (i : Nat) (k v : AV) (c : MapEntry), es[i]? = some (k, v) → ces[i]? = some c → VR β M k c.key ∧ VR β M v c.val
  | [], [], _ => ⟨rfl, fun i k v c h => by simp at h⟩
  | [], _ :: _, h => h.elim
  | _ :: _, [], h => h.elim
  | (k, v) :: es, c :: ces, h => by
    obtain ⟨h1, h2⟩ := ents_get h.2.2
    refine ⟨by simp [h1], fun i k' v' c' e1 e2 => ?_⟩
    cases i with
    | zero => simp only [List.getElem?_cons_zero, Option.some.injEq] at e1 e2; cases e1; subst e2; exact ⟨h.1, h.2.1⟩
    | succ i => simp only [List.getElem?_cons_succ] at e1 e2; exact h2 i k' v' c' e1 e2
theorem ents_of_get : ∀ {es : List (AV × AV)} {ces : List MapEntry}, es.length = ces.length → (∀ (i : Nat) (k v : AV) (c : MapEntry), es[i]? = some (k, v) → ces[i]? = some c → VR β M k c.key ∧ VR β M v c.val) → Ents β M es ces
  | [], [], _, _ => trivial
  | [], _ :: _, h, _ => by simp at h
  | _ :: _, [], h, _ => by simp at h
  | (k, v) :: es, c :: ces, h, hg => ⟨(hg 0 k v c rfl rfl).1, (hg 0 k v c rfl rfl).2, ents_of_get (by simpa using h) fun i k' v' c' e1 e2 => hg (i + 1) k' v' c' (by simpa using e1) (by simpa using e2)⟩

theorem eqCell {d : Nat} {t : TypeId} {x y : AV} (hok : keyCell P t x = true) (h : eqA P (d + 1) t x y = some true) : x = y := by
  unfold keyCell at hok
  unfold eqA at h
  split at hok
  · rename_i hu
    rw [hu] at h
    cases y <;> simp only at h <;> first | (cases h; done) | skip
    split at h
    · rename_i hk; injection h with h; rw [eqI_eq, decide_eq_true_iff] at h; rw [hk, h]
    · cases h
  · rename_i hu
    rw [hu] at h
    cases y <;> simp only at h <;> first | (cases h; done) | skip
    injection h with h; rw [eqS_eq, decide_eq_true_iff] at h; rw [h]
  · rename_i hu
    rw [hu] at h
    cases y <;> simp only at h <;> first | (cases h; done) | skip
    injection h with h; rw [beq_iff_eq] at h; rw [h]
  · cases hok
theorem fieldsEq {d : Nat} (cs0 ds0 : List AV) : ∀ (fs : List Field) (i : Nat) (cs : List AV), keyFields P i fs cs = true → cs = cs0.drop i → eqA.eqFields P (eqA P (d + 1)) fs cs0 ds0 = some true → ∀ j, i ≤ j → j < cs0.length → cs0[j]? = ds0[j]?
  | [], i, cs, h, hd, _, j, h1, h2 => by
    cases cs with
    | nil => have := congrArg List.length hd; simp at this; omega
    | cons _ _ => simp [keyFields] at h
  | f :: fs, i, [], h, _, _, _, _, _ => by simp [keyFields] at h
  | f :: fs, i, c :: cs, h, hd, he, j, h1, h2 => by
    simp only [keyFields, Bool.and_eq_true, bne_iff_ne, beq_iff_eq, Nat.beq_eq] at h
    obtain ⟨⟨⟨⟨hn, hc⟩, hz⟩, ho⟩, hr⟩ := h
    have hc0 : cs0[i]? = some c := by
      have := congrArg (fun l => l[0]?) hd
      simp only [List.getElem?_cons_zero, List.getElem?_drop, Nat.add_zero] at this
      exact this.symm
    have hs : cs = cs0.drop (i + 1) := by
      have := congrArg List.tail hd
      simpa [List.tail_drop] using this
    simp only [eqA.eqFields, if_pos hn] at he
    split at he
    · rename_i x y hx hy
      have ha := keyCell_part hc
      simp only [partOf, ha, ho] at hx hy
      have hxc : x = c := by rw [hc0] at hx; exact (Option.some.inj hx).symm
      subst hxc
      split at he
      · rename_i heq
        have := eqCell hc heq
        subst this
        by_cases hj : j = i
        · subst hj; rw [hx, hy]
        · exact fieldsEq cs0 ds0 fs (i + 1) cs hr hs he j (by omega) h2
      · cases he
      · cases he
    · cases he
theorem keyEq_eq {t : TypeId} {k k' : AV} (hok : keyOk P t k = true) (h : keyEq P t k k' = some true) : k = k' := by
  unfold keyEq at h
  split at h
  · split at h
    · rename_i hjk; rw [decide_eq_true_iff] at hjk
      injection h with h; rw [eqI_eq, decide_eq_true_iff] at h; rw [hjk, h]
    · cases h
  · injection h with h; rw [eqS_eq, decide_eq_true_iff] at h; rw [h]
  · injection h with h; rw [beq_iff_eq] at h; rw [h]
  · rename_i a b
    split at h
    · rename_i hl
      have hl := Nat.eq_of_beq_eq_true hl
      unfold keyOk at hok
      split at hok
      · rename_i fields cs hu heq
        injection heq with heq; subst heq
        simp only [Bool.and_eq_true] at hok
        have h' : eqA P (9999 + 1) t (.agg a) (.agg b) = some true := h
        unfold eqA at h'
        rw [hu] at h'
        simp only at h'
        split at h'
        · cases h'
        · have := fieldsEq (d := 9998) a b fields.toList 0 a hok.1 rfl h'
          congr 1
          apply List.ext_getElem?
          intro j
          by_cases hj : j < a.length
          · exact this j (Nat.zero_le _) hj
          · rw [List.getElem?_eq_none (by omega), List.getElem?_eq_none (by omega)]
      · unfold keyCell at hok
        split at hok <;> first | (cases hok; done) | (rename_i heq; cases heq)
    · cases h
  · cases h
theorem findI_eq {t : TypeId} {k : AV} (hok : keyOk P t k = true) : ∀ {es : List (AV × AV)} (i j : Nat), findI P t k es i = some (some j) → i ≤ j ∧ ∃ v, es[j - i]? = some (k, v)
  | [], i, j, h => by simp [findI] at h
  | (k', v) :: es, i, j, h => by
    simp only [findI] at h
    split at h
    · rename_i hq
      injection h with h; injection h with h; subst h
      have := keyEq_eq hok hq
      subst this
      exact ⟨Nat.le_refl _, v, by simp⟩
    · obtain ⟨h1, v', h2⟩ := findI_eq hok (i + 1) j h
      refine ⟨by omega, v', ?_⟩
      rw [show j - i = (j - (i + 1)) + 1 by omega, List.getElem?_cons_succ]; exact h2
    · cases h
theorem keyStays_sound {k : AV} {old new : Value} (h1 : VR β M k old) (h2 : VR β M k new) (w : World) : ∃ r w', (Instr.keyThatStays old new).run P w = .ok r w' ∧ VR β M k r ∧ w'.heap = w.heap ∧ w'.os = w.os ∧ w'.tape = w.tape ∧ w'.output = w.output := by
  unfold Instr.keyThatStays
  by_cases c : Instr.sameBits 10000 old new = true
  · rw [if_pos c]; exact ⟨new, w, rfl, h2, rfl, rfl, rfl, rfl⟩
  · rw [if_neg c]
    simp only [Sem.run_bind, run_choose, Question.forced]
    simp only [Nat.reduceEqDiff, decide_false, Bool.false_eq_true, if_false, Result.andThen_ok, Sem.run_pure]
    split
    · exact ⟨new, _, rfl, h2, rfl, rfl, rfl, rfl⟩
    · exact ⟨old, _, rfl, h1, rfl, rfl, rfl, rfl⟩

theorem mapUpdate_sound (R : Rel P w0 β H w) {t kt et : TypeId} {b : Nat} {k v : AV} {vm vk vv : Value} (hu : P.underlying t = some (.map kt et)) (hm : VR β (memOf w0) (.map b) vm) (hk : VR β (memOf w0) k vk) (hv : VR β (memOf w0) v vv)
    (hok : keyOk P kt k = true) (h : mapWith H b (fun es => mapPut P kt es k v) = some H') : ∃ w', (Instr.mapUpdate t vm vk vv).run P w = .ok () w' ∧ Moves P w0 β β H H' w' := by
  unfold mapWith at h
  split at h
  · rename_i es hat
    split at h
    · rename_i es' hput
      injection h with h; subst h
      cases hm with | map _ p hb =>
      obtain ⟨ces, clock, hh, hE⟩ := R.obj b p _ hb hat
      have hlt : p.c < w.heap.size := (R.dom b p hb).2.2.1
      have set_run : ∀ (w1 : World) (o : Obj), w1.heap = w.heap → (setObj p.c o).run P w1 = .ok () { w1 with heap := w1.heap.setIfInBounds p.c o } := fun w1 o hw => by simp [setObj, Sem.run, hw, hh]
      change mapPut P kt es k v = some es' at hput
      unfold mapPut at hput
      obtain ⟨hlen, hget⟩ := ents_get hE
      split at hput
      · rename_i i hf
        injection hput with hput; subst hput
        obtain ⟨r', e1, e2⟩ := findKeyI_sound hok hk w hf hE
        obtain ⟨⟨i', cv⟩, hr1, hr2⟩ := Option.map_eq_some_iff.1 e2
        subst hr1
        simp only at hr2
        subst hr2
        obtain ⟨_, ov, hkv⟩ := findI_eq hok 0 i' hf
        rw [Nat.sub_zero] at hkv
        have hi : i' < ces.size := by have := (List.getElem?_eq_some_iff.1 hkv).1; simp at hlen; omega
        have hold := (hget i' k ov ces[i'] hkv (by simp [hi])).1
        obtain ⟨r, w1, hs1, hs2, q0, q1, q2, q3⟩ := keyStays_sound (P := P) hold hk w
        have hrun : (Instr.mapUpdate t (.map (some p.c)) vk vv).run P w = .ok () { w1 with heap := w1.heap.setIfInBounds p.c (.map (ces.modify i' fun e => { e with key := r, val := vv }) clock) } := by
          simp only [Instr.mapUpdate, Sem.run_bind, run_underlying hu, Result.andThen_ok, run_getMap hh, keyOk_check hok hk, e1]
          have e3 : ((ces[i']?).map (·.key)).getD vk = ces[i'].key := by simp [hi]
          rw [e3, hs1]
          simp only [Result.andThen_ok]
          exact set_run w1 _ q0
        refine ⟨_, hrun, mapPut_rel (R.drew q0 q1 q2 q3) hb hat (ents_of_get (by simp at hlen ⊢; exact hlen) fun j k' v' c h1 h2 => ?_)⟩
        rw [List.getElem?_set] at h1
        simp only [Array.getElem?_toList, Array.getElem?_modify] at h2
        by_cases hj : i' = j
        · subst hj
          simp only [if_true] at h1 h2
          split at h1
          · injection h1 with h1; injection h1 with h3 h4; subst h3; subst h4
            obtain ⟨c0, hc0, rfl⟩ := Option.map_eq_some_iff.1 h2
            exact ⟨hs2, hv⟩
          · cases h1
        · rw [if_neg hj] at h1 h2
          exact hget j k' v' c h1 (by simpa using h2)
      · rename_i hf
        injection hput with hput; subst hput
        obtain ⟨r', e1, e2⟩ := findKeyI_sound hok hk w hf hE
        have : r' = none := by cases r' with | none => rfl | some _ => cases e2
        subst this
        have hrun : (Instr.mapUpdate t (.map (some p.c)) vk vv).run P w = .ok () { w with heap := w.heap.setIfInBounds p.c (.map (ces.push { key := vk, val := vv, born := clock }) (clock + 1)) } := by
          simp only [Instr.mapUpdate, Sem.run_bind, run_underlying hu, Result.andThen_ok, run_getMap hh, keyOk_check hok hk, e1]
          exact set_run w _ rfl
        refine ⟨_, hrun, mapPut_rel R hb hat (ents_of_get (by simp at hlen ⊢; exact hlen) fun j k' v' c h1 h2 => ?_)⟩
        simp only [Array.toList_push] at h2
        by_cases hj : j < es.length
        · rw [List.getElem?_append_left hj] at h1
          rw [List.getElem?_append_left (by omega)] at h2
          exact hget j k' v' c h1 h2
        · rw [List.getElem?_append_right (by omega)] at h1
          rw [List.getElem?_append_right (by omega)] at h2
          have hj0 : j - es.length = 0 := by
            have := (List.getElem?_eq_some_iff.1 h1).1; simp at this; omega
          rw [hj0] at h1
          rw [← hlen, hj0] at h2
          simp only [List.getElem?_cons_zero, Option.some.injEq] at h1 h2
          cases h1; subst h2
          exact ⟨hk, hv⟩
      · cases hput
    · cases h
  · cases h
theorem mapDelete_sound (R : Rel P w0 β H w) {t u kt et ty : TypeId} {b : Nat} {k : AV} {vm vk : Value} {r : List Value} {ts : List TypeId} (hu : P.underlying t = some (.map kt et)) (hm : VR β (memOf w0) (.map b) vm) (hk : VR β (memOf w0) k vk)
    (hok : keyOk P kt k = true) (h : mapWith H b (fun es => mapDel P kt es k) = some H') : ∃ w', (Builtin.delete_ (t :: ts).toArray ty (vm :: vk :: r).toArray).run P w = .ok (.tuple #[]) w' ∧ Moves P w0 β β H H' w' := by
  unfold mapWith at h
  split at h
  · rename_i es hat
    split at h
    · rename_i es' hput
      injection h with h; subst h
      cases hm with | map _ p hb =>
      obtain ⟨ces, clock, hh, hE⟩ := R.obj b p _ hb hat
      have set_run : ∀ (o : Obj), (setObj p.c o).run P w = .ok () { w with heap := w.heap.setIfInBounds p.c o } := fun o => by simp [setObj, Sem.run, hh]
      change mapDel P kt es k = some es' at hput
      unfold mapDel at hput
      obtain ⟨hlen, hget⟩ := ents_get hE
      split at hput
      · rename_i i hf
        injection hput with hput; subst hput
        obtain ⟨r', e1, e2⟩ := findKeyI_sound hok hk w hf hE
        obtain ⟨⟨i', cv⟩, hr1, hr2⟩ := Option.map_eq_some_iff.1 e2
        subst hr1
        simp only at hr2
        subst hr2
        refine ⟨{ w with heap := w.heap.setIfInBounds p.c (.map (ces.eraseIdxIfInBounds i') clock) }, ?_, mapPut_rel R hb hat (ents_of_get ?_ fun j k' v' c h1 h2 => ?_)⟩
        · simp [Builtin.delete_, run_underlying hu, run_getMap hh, keyOk_check hok hk, e1, set_run]
        · simp only [Array.toList_eraseIdxIfInBounds, List.length_eraseIdx, hlen]
        · simp only [Array.toList_eraseIdxIfInBounds] at h2
          rw [List.getElem?_eraseIdx] at h1 h2
          split at h1
          · rename_i hj; rw [if_pos hj] at h2; exact hget j k' v' c h1 h2
          · rename_i hj; rw [if_neg hj] at h2; exact hget (j + 1) k' v' c h1 h2
      · rename_i hf
        injection hput with hput; subst hput
        obtain ⟨r', e1, e2⟩ := findKeyI_sound hok hk w hf hE
        have : r' = none := by cases r' with | none => rfl | some _ => cases e2
        subst this
        refine ⟨{ w with heap := w.heap.setIfInBounds p.c (.map ces clock) }, ?_, mapPut_rel R hb hat hE⟩
        simp [Builtin.delete_, run_underlying hu, run_getMap hh, keyOk_check hok hk, e1, set_run]
      · cases hput
    · cases h
  · cases h
end
end Go.VI
