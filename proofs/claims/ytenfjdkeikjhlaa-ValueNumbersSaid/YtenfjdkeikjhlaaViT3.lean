/-
  A region in an open order, last part.
-/
import Derived.Test.YtenfjdkeikjhlaaViT2
set_option autoImplicit false
set_option linter.unusedVariables false
namespace Go.VI
open Go.RowKit

section
variable {P : Program} {w w' w0 : World} {β β' β0 : Bt} {H H' H0 : AH} {nt : Nat} {e : Env} {a : Act} {M : Mem} {call : CallF} {ops : Array Oper} {listed : Array Bool} {pend : List PI} {rest : List Nat} {ls : List Look} {s s' : St} {Q : Exit → Act → World → Prop}

theorem put_same {a a' : Act} {dst : Option Nat} {u v : Value} (hs : a'.tmps.size = a.tmps.size) (h : a'.put dst u = a'.put dst v) : a.put dst u = a.put dst v := by
  cases dst with
  | none => rfl
  | some d =>
    simp only [Act.put, Act.mk.injEq, and_true] at h ⊢
    by_cases c : d < a.tmps.size
    · have := congrArg (fun x : Array Value => x[d]?) h
      simp [hs, c] at this
      rw [this]
    · rw [Array.setIfInBounds_eq_of_size_le (by omega), Array.setIfInBounds_eq_of_size_le (by omega)]
theorem put_defers' {a : Act} {dst : Option Nat} {v : Value} : (a.put dst v).defers = a.defers := by cases dst <;> rfl

/-- A loud one is done by both at once. -/
theorem together {j : Nat} (C : CallSound P w0 call) (T : Plain P ops) (I : Inv P w0 nt call ops β0 H0 s' listed pend (j :: rest) ls s β a w) (hr : j ∈ Region.ready .any ops listed)
    {o : Oper} (ho : ops[j]? = some o) (hw : wantedA ops.toList s.e o = true) (hl : isLoud P o = true) {K : Act → World → Prop}
    (hK : ∀ ls1 s1 β' a' w', Inv P w0 nt call ops β0 H0 s' (listed.setIfInBounds j true) pend rest ls1 s1 β' a' w' → K a' w') : wpOp P ops Q j K a w := by
  have hol : ops.toList[j]? = some o := by rw [Array.getElem?_toList]; exact ho
  have hin : j < listed.size := by rw [I.size]; exact (Array.getElem?_eq_some_iff.1 ho).1
  obtain ⟨c1, c2, c3, c4⟩ := I.chain
  have hq : ∀ q ∈ pend, ops[q.i]? = some q.o := fun q hq => by have := (I.ok q hq).1; rw [Array.getElem?_toList] at this; exact this
  have hne : ∀ q ∈ pend, q.i ≠ j := fun q hq c => I.disj q hq (by rw [c]; exact List.mem_cons_self)
  have hfree : ∀ t, (t ∈ looks ops.toList o) → ∀ q ∈ pend, q.o.dst ≠ some t := fun t ht q hq' c => by
    rcases (T.write q.i q.o t j o (hq q hq') c ho (hne q hq')).2 ht with h | h
    · exact absurd rfl ((not_un I (ready_mask I hr h)).2 q hq')
    · exact I.mask q hq' j h List.mem_cons_self
  have hlook : ∀ t ∈ looks ops.toList o, VR β (memOf w0) (s.e.val t) (a.tmps.getD t undef) := fun t ht => I.val t (hfree t ht)
  have hwant : Region.wanted o (yielded ops a.tmps) = wantedA ops.toList s.e o := wanted_at hlook
  have E := only_rel (e := s.e) (ts := operandTmps o.op) I.asz (fun t ht => hlook t (looks_ops ht))
  have run := I.run
  simp only [adraw, hol, hw, if_true] at run
  unfold isLoud at hl
  split at run
  · rename_i hk; rw [hk] at hl; cases hl
  · rename_i hk; rw [hk] at hl; cases hl
  · split at run
    · rename_i v h1 hlo
      split at run
      · rename_i e1 he
        split at run
        · rename_i hre
          unfold wpOp
          simp only [ho]
          rw [hwant, hw, if_pos rfl]
          refine .inl ?_
          refine wp_transfer (only_exec (loud_select hlo)) (loudOp_sound (next := fun a1 w1 => ∃ β1 v1, a1 = (actOnly a (operandTmps o.op)).put o.dst v1 ∧ Moves P w0 β β1 s.h h1 w1 ∧ VR β1 (memOf w0) v v1) C I.moves.rel E hlo (fun v1 w1 β1 hm hv => ⟨β1, v1, rfl, hm, hv⟩)) ?_ ?_
          · rintro u w1 ⟨β1, v1, heq, hm, hv⟩
            rw [put_same (actOnly_size a _) heq]
            have hasz : (a.put o.dst v1).tmps.size = a.tmps.size := by cases o.dst <;> simp [Act.put]
            have hval : ∀ t, o.dst ≠ some t → e1.val t = s.e.val t ∧ (a.put o.dst v1).tmps.getD t undef = a.tmps.getD t undef := by
              intro t ht
              cases hdd : o.dst with
              | none => rw [hdd] at he; simp only [putE, Option.some.injEq] at he; exact ⟨by rw [← he], rfl⟩
              | some d =>
                rw [hdd] at he ht
                have hdt : d ≠ t := fun c => ht (by rw [c])
                simp only [putE] at he
                split at he
                · injection he with he
                  exact ⟨by rw [← he, val_set, if_neg (fun c => hdt c.symm)], by simp [Act.put, Array.getD_eq_getD_getElem?, hdt]⟩
                · cases he
            have hself : ∀ t, o.dst = some t → e1.val t = v ∧ VR β1 (memOf w0) v ((a.put o.dst v1).tmps.getD t undef) := by
              intro t ht
              rw [ht] at he ⊢
              simp only [putE] at he
              split at he
              · rename_i hlt; rw [blt_iff, decide_eq_true_iff] at hlt
                have hlt' : t < a.tmps.size := Nat.lt_of_lt_of_le hlt I.asz
                injection he with he
                exact ⟨by rw [← he, val_set, if_pos rfl], by simp [Act.put, Array.getD_eq_getD_getElem?, hlt']; exact hv⟩
              · cases he
            have hdst : ∀ q ∈ pend, ∀ t, q.o.dst = some t → o.dst ≠ some t := fun q hq' t ht => (T.write q.i q.o t j o (hq q hq') ht ho (hne q hq')).1
            refine hK ls ⟨e1, h1, s.d⟩ β1 _ w1 ⟨by simpa using I.size, fun i hi => ?_, fun i m hi hm' => ?_, c4, fun i hi => I.inb i (List.mem_cons_of_mem _ hi), fun q h c => I.disj q h (List.mem_cons_of_mem _ c), I.uniq, fun q h m hm' c => I.mask q h m hm' (List.mem_cons_of_mem _ c), I.moves.trans hm, by rw [hasz]; exact I.asz, fun t ht => ?_, fun q h t ht => ?_, I.dlt, fun q h t ht hc => ?_, I.link, fun q h => ?_, I.apart, I.reads, by rw [put_defers']; exact I.defs.mono hm.le, run⟩
            · rw [set_true hin, I.un i hi, List.mem_cons]
              constructor
              · rintro ⟨hij, (h | h) | h⟩
                · exact absurd h hij
                · exact .inl h
                · exact .inr h
              · rintro (h | ⟨q, k1, k2⟩)
                · exact ⟨fun c => c1 (by rw [← c]; exact h), .inl (.inr h)⟩
                · exact ⟨by rw [← k2]; exact hne q k1, .inr ⟨q, k1, k2⟩⟩
            · rcases set_false hi with rfl | hi
              · exact getD_set_true (ready_mask I hr hm')
              · exact getD_set_true (I.clos i m hi hm')
            · by_cases c : o.dst = some t
              · obtain ⟨k1, k2⟩ := hself t c
                show VR β1 (memOf w0) (e1.val t) _
                rw [k1]; exact k2
              · obtain ⟨k1, k2⟩ := hval t c
                show VR β1 (memOf w0) (e1.val t) _
                rw [k1, k2]; exact (I.val t ht).mono hm.le
            · show e1.val t = q.v
              rw [(hval t (hdst q h t ht)).1]; exact I.dst q h t ht
            · by_cases c : o.dst = some t
              · rcases (T.write j o t q.i q.o ho c (hq q h) (Ne.symm (hne q h))).2 ht with h3 | h3
                · exact absurd List.mem_cons_self (I.mask q h j h3)
                · exact absurd rfl ((not_un I (ready_mask I hr h3)).2 q h)
              · rw [(hval t c).2]
                exact (I.look q h t ht hc).mono hm.le
            · have hk := I.ok q h
              refine ⟨hk.1, ?_⟩
              have hk2 := hk.2
              cases hqk : q.k with
              | skip => rw [hqk] at hk2; exact hk2
              | read =>
                rw [hqk] at hk2
                refine ⟨hk2.1, ?_⟩
                rcases recheck_all hre _ (I.reads q h hqk) with k | k
                · exact absurd rfl ((not_un I (ready_mask I hr k)).2 q h)
                · exact k
              | alloc x b =>
                rw [hqk] at hk2
                obtain ⟨k1, k2, k3, k4, k5, k6⟩ := hk2
                obtain ⟨m1, m2⟩ := hm.unm b k3 k4
                exact ⟨k1, k2, Nat.lt_of_lt_of_le k3 hm.n, m1, m2.trans k5, k6⟩
          · rintro d w1 ⟨β1, v1, heq, _⟩
            have := congrArg (fun x : Act => x.defers.length) heq
            simp [put_defers'] at this
        · cases run
      · cases run
    · cases run

/-- The plan goes ahead until it stands at 'j'. -/
theorem reach (T : Plain P ops) {j : Nat} (hr : j ∈ Region.ready .any ops listed) : ∀ (rest : List Nat) (pend : List PI) (ls : List Look) (s : St), Inv P w0 nt call ops β0 H0 s' listed pend rest ls s β a w → j ∈ rest →
    ∃ pend1 rest1 ls1 s1, Inv P w0 nt call ops β0 H0 s' listed pend1 (j :: rest1) ls1 s1 β a w
  | [], _, _, _, _, h => by cases h
  | i :: rest, pend, ls, s, I, h => by
    by_cases c : i = j
    · subst c; exact ⟨pend, rest, ls, s, I⟩
    · have hj : j ∈ rest := by
        rcases List.mem_cons.1 h with h | h
        · exact absurd h.symm c
        · exact h
      obtain ⟨p, ls1, s1, hp, I1⟩ := advance T I (fun o ho _ => by
        cases hl : isLoud P o with
        | false => rfl
        | true =>
          obtain ⟨c1, c2, c3, c4⟩ := I.chain
          have := c3 (by rw [getD_get ho]; exact hl) j hj
          exact absurd List.mem_cons_self (not_un I (ready_mask I hr this)).1)
      exact reach T hr rest (p :: pend) ls1 s1 I1 hj

theorem draw_any (C : CallSound P w0 call) (T : Plain P ops) {K : Act → World → Prop} (hK : ∀ a' w' β', SRel P w0 β' nt s' a' w' → Moves P w0 β0 β' H0 s'.h w' → Q .normal a' w') :
    ∀ (fuel : Nat) (listed : Array Bool) (pend : List PI) (rest : List Nat) (ls : List Look) (s : St) (β : Bt) (a : Act) (w : World), listed.toList.count false ≤ fuel →
      Inv P w0 nt call ops β0 H0 s' listed pend rest ls s β a w → wpAny P .any ops Q fuel listed a w
  | 0, listed, pend, rest, ls, s, β, a, w, hc, I => by
    have he : Region.ready .any ops listed = [] := by
      cases h : Region.ready .any ops listed with
      | nil => rfl
      | cons i r =>
        have hi : i ∈ Region.ready .any ops listed := by rw [h]; exact List.mem_cons_self
        obtain ⟨h0, o, ho, _⟩ := mem_ready.1 hi
        have hlt : i < listed.size := by rw [I.size]; exact (Array.getElem?_eq_some_iff.1 ho).1
        have hm : false ∈ listed.toList := by
          simp [hlt] at h0
          rw [← h0]; simp
        have := List.count_pos_iff.2 hm
        omega
    obtain ⟨S, m⟩ := inv_end T I he
    exact ⟨he, hK a w β S m⟩
  | fuel + 1, listed, pend, rest, ls, s, β, a, w, hc, I => by
    refine ⟨fun he => ?_, fun j hj => ?_⟩
    · obtain ⟨S, m⟩ := inv_end T I he
      exact hK a w β S m
    · obtain ⟨h0, o, ho, _⟩ := mem_ready.1 hj
      have hjn : j < ops.size := (Array.getElem?_eq_some_iff.1 ho).1
      have hlt : j < listed.size := by rw [I.size]; exact hjn
      have hol : ops.toList[j]? = some o := by rw [Array.getElem?_toList]; exact ho
      have hc' : (listed.setIfInBounds j true).toList.count false ≤ fuel := by
        have h1 : listed[j] = false := by simpa [hlt] using h0
        rw [Array.toList_setIfInBounds, List.count_set (by simpa using hlt)]
        simp only [Array.getElem_toList, h1, beq_self_eq_true, if_true, show (true == false) = false from rfl, Bool.false_eq_true, if_false]
        omega
      have late : ∀ pend1 rest1 ls1 s1 p, Inv P w0 nt call ops β0 H0 s' listed pend1 rest1 ls1 s1 β a w → p ∈ pend1 → p.i = j → wpOp P ops Q j (wpAny P .any ops Q fuel (listed.setIfInBounds j true)) a w := by
        intro pend1 rest1 ls1 s1 p I1 hp hpj
        subst hpj
        exact catchUp T I1 hp hj (fun β' a' w' I2 => draw_any C T (K := K) hK fuel _ _ _ _ _ _ _ _ hc' I2)
      rcases (I.un j hjn).1 h0 with h | ⟨p, hp, hpj⟩
      · obtain ⟨pend1, rest1, ls1, s1, I1⟩ := reach T hj rest pend ls s I h
        by_cases hlo : wantedA ops.toList s1.e o = true ∧ isLoud P o = true
        · exact together C T I1 hj ho hlo.1 hlo.2 (fun ls2 s2 β' a' w' I2 => draw_any C T (K := K) hK fuel _ _ _ _ _ _ _ _ hc' I2)
        · obtain ⟨p, ls2, s2, hp, I2⟩ := advance T I1 (fun o' ho' hw => by
            rw [hol] at ho'; injection ho' with ho'; subst ho'
            cases hl : isLoud P o with
            | false => rfl
            | true => exact absurd ⟨hw, hl⟩ hlo)
          exact late _ _ _ _ p I2 List.mem_cons_self hp
      · exact late _ _ _ _ p I hp hpj

theorem plain_of {ord : List Nat} (hp : planOk P ops.toList (masks ops.toList []) ord = true) : Plain P ops ∧ (∀ i, i < ops.size → i ∈ ord) ∧ Chain P ops.toList (masks ops.toList []) ord ∧ (∀ i ∈ ord, i < ops.size) := by
  unfold planOk at hp
  simp only [Bool.and_eq_true] at hp
  obtain ⟨⟨⟨⟨⟨h1, h2⟩, h3⟩, h4⟩, h5⟩, h6⟩ := hp
  refine ⟨⟨fun i o ho e he hb => ?_, fun i w d j o hw hd ho hij => ?_⟩, fun i hi => ?_, chain_of h2 h5, fun i hi => ?_⟩
  · have := List.all_eq_true.1 h4 (o, i) (List.mem_zipIdx_iff_getElem?.2 (by simpa using ho))
    have := List.all_eq_true.1 this e he
    simpa [hb] using this
  · have := List.all_eq_true.1 h6 (w, i) (List.mem_zipIdx_iff_getElem?.2 (by simpa using hw))
    simp only [writeOk, hd] at this
    have := List.all_eq_true.1 this (o, j) (List.mem_zipIdx_iff_getElem?.2 (by simpa using ho))
    simp only [Bool.or_eq_true, Bool.and_eq_true, Bool.not_eq_true', beq_iff_eq, beq_eq_false_iff_ne, hij, false_or] at this
    refine ⟨this.1, fun hdl => ?_⟩
    rcases this.2 with (h | h) | h
    · rw [← Bool.not_eq_true, List.contains_iff_mem] at h; exact absurd hdl h
    · exact .inl h
    · exact .inr h
  · have := List.all_eq_true.1 h1 i (List.mem_range.2 (by simpa using hi))
    rwa [List.contains_iff_mem] at this
  · have := List.all_eq_true.1 h3 i hi
    simpa using this

theorem draw_sound {call : CallF} (C : CallSound P w0 call) (hm : P.follows .mixedOrders = true) {ops : Array Oper} {Q : Exit → Act → World → Prop} {id : Nat} {s s' : St}
    (hp : planOk P ops.toList (masks ops.toList []) (order P ops.toList (masks ops.toList []) ops.toList.length 0) = true)
    (h : adraw P nt call ops.toList (masks ops.toList []) (order P ops.toList (masks ops.toList []) ops.toList.length 0) [] s = some s') (S : SRel P w0 β nt s a w)
    (K : RegPost P w0 β nt s.h (Q .normal) Q (.ok s')) : (Code.region id ops true).wp P Q a w := by
  refine wp_region_any hm ?_
  obtain ⟨T, hnd, hch, hin⟩ := plain_of hp
  refine draw_any (β0 := β) (H0 := s.h) (s' := s') C T (K := fun _ _ => True) (fun a' w' β' S' m => K a' w' β' S' m) ops.size _ [] (order P ops.toList (masks ops.toList []) ops.toList.length 0) [] s β a _ ?_ ?_
  · rw [Array.toList_replicate]; exact Nat.le_trans List.count_le_length (by simp)
  refine ⟨by simp, fun i hi => ?_, fun i m hi => ?_, hch, hin, by simp, by simp, by simp, ?_, S.e.size, fun t _ => S.e.val t, by simp, by simp, by simp, by simp, by simp, by simp, by simp, S.d, h⟩
  · simp [hi]; exact hnd i hi
  · by_cases c : i < ops.size <;> simp [c] at hi
  · have R := S.h.drew (w' := { w with drawn := w.drawn + 1 }) rfl rfl rfl rfl
    exact .refl R
end
end Go.VI
