/-
  A map of the call's own whose keys and values name no place: made, looked up, written, as the walk meets it.
-/
import Derived.Test.YtapagakfckjhdaaVi2
import Derived.Test.YtapagakfckjhdaaWWords
set_option autoImplicit false
set_option linter.unusedVariables false
namespace Go.VI
open Go.RowKit Go.Proofs.YtapagakfckjhdaaW.PrintWords Go.Proofs.YtapagakfckjhdaaW.PrintWords.Kd
abbrev B0 : Bt := fun _ => none
abbrev M0 : Mem := fun _ _ => none
/-- Block b is a map with these entries. -/
def MapIs (w : World) (b : Nat) (es : List (AV × AV)) : Prop := ∃ ces clock, w.heap[b]? = some (.map ces clock) ∧ Ents B0 M0 es ces.toList
section
variable {P : Program} {w w1 : World} {b : Nat} {es es' : List (AV × AV)} {t kt et : TypeId} {k v : AV} {vk vv : Value}
theorem MapIs.lt (h : MapIs w b es) : b < w.heap.size := by
  obtain ⟨_, _, h, _⟩ := h
  exact (Array.getElem?_eq_some_iff.1 h).1
theorem MapIs.keep (h : MapIs w b es) (e : w1.heap[b]? = w.heap[b]?) : MapIs w1 b es := by
  obtain ⟨c, q, h1, h2⟩ := h
  exact ⟨c, q, e.trans h1, h2⟩
theorem MapIs.below (h : MapIs w b es) (hb : Below w.heap.size w w1) : MapIs w1 b es := h.keep (hb.block b h.lt)
theorem MapIs.alloc (h : MapIs w b es) (o : Obj) : MapIs (w.alloc o) b es := h.below (below_alloc (Below.refl _ _) o)
theorem MapIs.drewN (h : MapIs w b es) (n : Nat) : MapIs (w.drewN n) b es := h
theorem MapIs.drew (h : MapIs w b es) : MapIs w.drew b es := h
theorem MapIs.grown (h : MapIs w b es) {row : Option Nat} (hg : w.grownBy w1 row) (hne : some b ≠ row) : MapIs w1 b es := h.keep (hg.block b h.lt hne)
/-- It is no row. -/
theorem MapIs.ne_row (h : MapIs w b es) {g : Nat} {cs : Array Value} {e : TypeId} {f : Nat × Nat} (hg : w.heap[g]? = some (.cells cs e f)) : b ≠ g := by
  rintro rfl
  obtain ⟨_, _, h, _⟩ := h
  rw [h] at hg
  cases hg
theorem MapIs.made (w : World) : MapIs (w.alloc (.map #[] 0)) w.heap.size [] := ⟨#[], 0, heap_alloc_new w _, trivial⟩
/-- m[k] -/
theorem MapIs.look (h : MapIs w b es) (hu : P.underlying t = some (.map kt et)) (hok : keyOk P kt k = true) (hk : VR B0 M0 k vk) {r : Option AV} (hf : findA P kt k es = some r) {z : AV} (hz : zeroOf P et = some z) :
    ∃ v', (Instr.lookup t (.map (some b)) vk false).run P w = .ok v' w ∧ VR B0 M0 (r.getD z) v' := by
  obtain ⟨ces, clock, hh, hE⟩ := h
  obtain ⟨r', e1, e2, e3⟩ := findKey_sound hok hk w hf hE
  cases r with
  | none =>
    have e2 := e2 rfl
    subst e2
    obtain ⟨zv, h1, h2⟩ := zeroOf_sound (M := M0) (β := B0) hz
    refine ⟨zv, ?_, h2⟩
    simp only [Instr.lookup, Sem.run_bind, run_underlying hu, Result.andThen_ok, run_getMap hh, keyOk_check hok hk, e1, Sem.run_pure]
    simp [h1]
  | some x =>
    obtain ⟨j, v', rfl, hv⟩ := e3 _ rfl
    refine ⟨v', ?_, hv⟩
    simp only [Instr.lookup, Sem.run_bind, run_underlying hu, Result.andThen_ok, run_getMap hh, keyOk_check hok hk, e1, Sem.run_pure]
    simp
/-- m[k] = v -/
theorem MapIs.put (h : MapIs w b es) (hu : P.underlying t = some (.map kt et)) (hok : keyOk P kt k = true) (hk : VR B0 M0 k vk) (hv : VR B0 M0 v vv) (hput : mapPut P kt es k v = some es') :
    ∃ w', (Instr.mapUpdate t (.map (some b)) vk vv).run P w = .ok () w' ∧ MapIs w' b es' ∧ w.grownBy w' (some b) := by
  obtain ⟨ces, clock, hh, hE⟩ := h
  have hlt : b < w.heap.size := (Array.getElem?_eq_some_iff.1 hh).1
  have set_run : ∀ (w1 : World) (o : Obj), w1.heap = w.heap → (setObj b o).run P w1 = .ok () { w1 with heap := w1.heap.setIfInBounds b o } := fun w1 o hw => by simp [setObj, Sem.run, hw, hh]
  have grown_ : ∀ (w1 : World) (o : Obj), w1.heap = w.heap → w1.os = w.os → w1.tape = w.tape → w1.output = w.output → w.grownBy { w1 with heap := w1.heap.setIfInBounds b o } (some b) := fun w1 o h0 h1 h2 h3 =>
    ⟨h1, h2, h3, by simp [h0], fun i hi hne => by
      have : b ≠ i := fun e => hne (by rw [e])
      simp [h0, Array.getElem?_setIfInBounds_ne this]⟩
  have here : ∀ (w1 : World) (o : Obj), w1.heap = w.heap → ({ w1 with heap := w1.heap.setIfInBounds b o } : World).heap[b]? = some o := fun w1 o h0 => by
    show (w1.heap.setIfInBounds b o)[b]? = some o
    rw [Array.getElem?_setIfInBounds_self_of_lt (by rw [h0]; exact hlt)]
  unfold mapPut at hput
  obtain ⟨hlen, hget⟩ := ents_get hE
  split at hput
  · rename_i i hf
    injection hput with hput; subst hput
    obtain ⟨r', e1, e2⟩ := findKeyI_sound hok hk w hf hE
    obtain ⟨⟨i', cv⟩, hr1, hr2⟩ := Option.map_eq_some_iff.1 e2
    subst hr1
    simp only at hr2
    subst hr2
    obtain ⟨_, ov, hkv⟩ := findI_eq hok 0 i' hf
    rw [Nat.sub_zero] at hkv
    have hi : i' < ces.size := by have := (List.getElem?_eq_some_iff.1 hkv).1; simp at hlen; omega
    have hold := (hget i' k ov ces[i'] hkv (by simp [hi])).1
    obtain ⟨r, w1, hs1, hs2, q0, q1, q2, q3⟩ := keyStays_sound (P := P) hold hk w
    have hrun : (Instr.mapUpdate t (.map (some b)) vk vv).run P w = .ok () { w1 with heap := w1.heap.setIfInBounds b (.map (ces.modify i' fun e => { e with key := r, val := vv }) clock) } := by
      simp only [Instr.mapUpdate, Sem.run_bind, run_underlying hu, Result.andThen_ok, run_getMap hh, keyOk_check hok hk, e1]
      have e3 : ((ces[i']?).map (·.key)).getD vk = ces[i'].key := by simp [hi]
      rw [e3, hs1]
      simp only [Result.andThen_ok]
      exact set_run w1 _ q0
    refine ⟨_, hrun, ⟨_, clock, here w1 _ q0, ents_of_get (by simp at hlen ⊢; exact hlen) fun j k' v' c h1 h2 => ?_⟩, grown_ w1 _ q0 q1 q2 q3⟩
    rw [List.getElem?_set] at h1
    simp only [Array.getElem?_toList, Array.getElem?_modify] at h2
    by_cases hj : i' = j
    · subst hj
      simp only [if_true] at h1 h2
      split at h1
      · injection h1 with h1; injection h1 with h3 h4; subst h3; subst h4
        obtain ⟨c0, hc0, rfl⟩ := Option.map_eq_some_iff.1 h2
        exact ⟨hs2, hv⟩
      · cases h1
    · rw [if_neg hj] at h1 h2
      exact hget j k' v' c h1 (by simpa using h2)
  · rename_i hf
    injection hput with hput; subst hput
    obtain ⟨r', e1, e2⟩ := findKeyI_sound hok hk w hf hE
    have : r' = none := by cases r' with | none => rfl | some _ => cases e2
    subst this
    have hrun : (Instr.mapUpdate t (.map (some b)) vk vv).run P w = .ok () { w with heap := w.heap.setIfInBounds b (.map (ces.push { key := vk, val := vv, born := clock }) (clock + 1)) } := by
      simp only [Instr.mapUpdate, Sem.run_bind, run_underlying hu, Result.andThen_ok, run_getMap hh, keyOk_check hok hk, e1]
      exact set_run w _ rfl
    refine ⟨_, hrun, ⟨_, _, here w _ rfl, ents_of_get (by simp at hlen ⊢; exact hlen) fun j k' v' c h1 h2 => ?_⟩, grown_ w _ rfl rfl rfl rfl⟩
    simp only [Array.toList_push] at h2
    by_cases hj : j < es.length
    · rw [List.getElem?_append_left hj] at h1
      rw [List.getElem?_append_left (by omega)] at h2
      exact hget j k' v' c h1 h2
    · rw [List.getElem?_append_right (by omega)] at h1
      rw [List.getElem?_append_right (by omega)] at h2
      have hj0 : j - es.length = 0 := by
        have := (List.getElem?_eq_some_iff.1 h1).1; simp at this; omega
      rw [hj0] at h1
      rw [← hlen, hj0] at h2
      simp only [List.getElem?_cons_zero, Option.some.injEq] at h1 h2
      cases h1; subst h2
      exact ⟨hk, hv⟩
  · cases hput
variable {ops : Array Oper} {rest : List Oper} {o : Oper} {a : Act} {Q : Exit → Act → World → Prop} {W : World}
/-- map[K]V{} -/
theorem make_event (hgd : o.guard = none) (t : TypeId) (ho : o.op = .makeMap t none)
    (h : ∀ b w1, MapIs w1 b [] → W.heap.size ≤ b → Below W.heap.size W w1 → wpList P ops Q rest (a.put o.dst (.map (some b))) w1) : wpList P ops Q (o :: rest) a W := by
  refine event_run (w1 := W.alloc (.map #[] 0)) (v := .map (some W.heap.size)) hgd ?_ (h _ _ (MapIs.made W) (Nat.le_refl _) (below_alloc (Below.refl _ _) _))
  simp [execOp, ho, Instr.makeMap]
/-- m[k] = v -/
theorem put_event (hgd : o.guard = none) (m x y : Operand) (t : TypeId) (ho : o.op = .mapUpdate t m x y ∨ o.op = .insert t m x y) (hu : P.underlying t = some (.map kt et)) (hm : a.eval m = .map (some b)) (hx : a.eval x = vk) (hy : a.eval y = vv) (H : MapIs W b es)
    (k v : AV) (hok : keyOk P kt k = true) (hk : VR B0 M0 k vk) (hv : VR B0 M0 v vv) (hput : mapPut P kt es k v = some es')
    (h : ∀ w1, MapIs w1 b es' → W.grownBy w1 (some b) → wpList P ops Q rest (a.put o.dst undef) w1) : wpList P ops Q (o :: rest) a W := by
  refine wpList_plain hgd fun K' hK' => ?_
  obtain ⟨w', hrun, r1, r2⟩ := H.put hu hok hk hv hput
  unfold Oper.wp
  rcases ho with ho | ho <;> (simp [execOp, ho, hm, hx, hy, hrun, Result.andThen]; exact hK' _ _ (h w' r1 r2))
/-- m[k] -/
theorem look_event (hgd : o.guard = none) (m x : Operand) (t : TypeId) (ho : o.op = .lookup t m x false) (hu : P.underlying t = some (.map kt et)) (hm : a.eval m = .map (some b)) (hx : a.eval x = vk) (H : MapIs W b es)
    (k : AV) (hok : keyOk P kt k = true) (hk : VR B0 M0 k vk) (r : Option AV) (hf : findA P kt k es = some r) {z : AV} (hz : zeroOf P et = some z)
    (h : ∀ v', VR B0 M0 (r.getD z) v' → wpList P ops Q rest (a.put o.dst v') W) : wpList P ops Q (o :: rest) a W := by
  obtain ⟨v', h1, h2⟩ := H.look hu hok hk hf hz
  exact event_run hgd (by simp [execOp, ho, hm, hx, h1]) (h v' h2)
end
end Go.VI
