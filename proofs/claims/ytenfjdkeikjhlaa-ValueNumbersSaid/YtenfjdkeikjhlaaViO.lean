/-
  append onto a block of the abstract machine's own.
-/
import Derived.Test.YtenfjdkeikjhlaaViN
set_option autoImplicit false
set_option linter.unusedVariables false
namespace Go.VI
open Go.RowKit

section
variable {P : Program} {w w' w0 : World} {β β' : Bt} {H H' : AH} {nt : Nat} {e : Env} {a : Act} {M : Mem}

/-- The block grew in its own place. -/
theorem grew_in {p p' : Pl} {cc : Array Value} {el : TypeId} {fz : Nat × Nat} {o : Nat} {news : List Value} (hc : p'.c = p.c) (h : w.heap[p.c]? = some (.cells cc el fz)) (hle : o + news.length ≤ cc.size) : Grew w (w.setCells p.c o news) p p' o := by
  obtain ⟨r1, r2, r3, r4⟩ := setCells_rest news p.c o w
  have hlt : p.c < w.heap.size := by
    rcases Nat.lt_or_ge p.c w.heap.size with c | c
    · exact c
    · rw [Array.getElem?_eq_none c] at h; cases h
  refine ⟨r1, r2, r3, by rw [r4]; exact Nat.le_refl _, by rw [r4, hc]; exact hlt, fun k hk => setCells_other news p.c o w k (by rw [← hc]; exact hk), .inr ⟨hc, fun cc' el' fz' h' => ?_⟩⟩
  rw [h] at h'; injection h' with h'; injection h' with h1 h2 h3; subst h1; subst h2; subst h3
  refine ⟨_, setCells_heap news p.c o w cc el fz h hle, by simp; omega, fun i hi => ?_⟩
  simp only [List.getElem?_toArray]
  rw [List.append_assoc, List.getElem?_append_left (by simp; omega), List.getElem?_take_of_lt hi]
  simp
theorem inplace_obj (R : Rel P w0 β H w) {b : Nat} {p : Pl} {cells new : List AV} {news : List Value} {el : TypeId} {fam fam' : Option (Nat × Nat)} {off len k cap' e : Nat} (hb : β b = some p) (hat : H.at b = some (.row cells el true fam))
    (hs : csz P el = some e) (hpe : p.e = e) (hoff : off + len * e ≤ cells.length) (hv : VRs β (memOf w0) new news) (hnl : news.length = k * e) (hcap : off + cap' * e = p.r) (hroom : len + k ≤ cap') :
    ∀ cc elc fz, w.heap[p.c]? = some (.cells cc elc fz) → p.o + p.r ≤ cc.size →
    ObjR P (β.upd H.n ⟨p.c, p.o + off, e, (len + k) * e, cap' * e⟩) (memOf w0) (w.setCells p.c (p.o + off + len * e) news) ⟨p.c, p.o + off, e, (len + k) * e, cap' * e⟩ (.row ((cells.drop off).take (len * e) ++ new) el true fam') := by
  intro cc elc fz hh hcs
  obtain ⟨o1, o2, o3, cc', elc', fz', o4, o5, o6, us, o7, o8⟩ := R.row hb hat
  rw [hh] at o4; injection o4 with o4; injection o4 with e1 e2 e3; subst e1; subst e2; subst e3
  have hN : β H.n = none := by
    cases h : β H.n with
    | none => rfl
    | some q => have := (R.dom _ _ h).1; omega
  have hle := Bt.le_upd hN ⟨p.c, p.o + off, e, (len + k) * e, cap' * e⟩
  have hul := o7.length
  have hmul : (len + k) * e = len * e + k * e := Nat.add_mul _ _ _
  have hmul2 : (len + k) * e ≤ cap' * e := Nat.mul_le_mul_right e hroom
  have hle2 : p.o + off + len * e + news.length ≤ cc.size := by omega
  refine ⟨by simp only [List.length_append, List.length_take, List.length_drop, hv.length, hnl]; omega, (fun h => by cases h), fun _ => hs, _, elc, fz, setCells_heap news p.c _ w cc elc fz hh hle2, ?_, ?_, (us.drop off).take (len * e) ++ news, (((o7.drop off).take _).append hv).mono hle, fun i v ei => ?_⟩
  · unfold fzOk at o5 ⊢; simp; omega
  · simp; omega
  · simp only [List.getElem?_toArray]
    have hl3 : ((us.drop off).take (len * e)).length = len * e := by simp; omega
    by_cases c1 : i < len * e
    · rw [List.getElem?_append_left (by omega), List.getElem?_take_of_lt c1, List.getElem?_drop] at ei
      rw [List.append_assoc, List.getElem?_append_left (by simp; omega), List.getElem?_take_of_lt (by omega)]
      have := o8 _ v ei
      rw [← Array.getElem?_toList] at this
      rw [← this]; congr 1; omega
    · rw [List.getElem?_append_right (by omega), hl3] at ei
      have hi : i - len * e < news.length := (List.getElem?_eq_some_iff.1 ei).1
      rw [List.append_assoc, List.getElem?_append_right (by simp; omega), List.getElem?_append_left (by simp; omega)]
      rw [← ei]; congr 1; simp; omega

theorem appendMt_sound (R : Rel P w0 β H w) {t u ty el : TypeId} {d : TypeDesc} {e by_ k : Nat} {x : Value} {i : TypeInfo} {zv : Value} {new : List AV} {news : List Value} {r : AV} {b off len cap : Nat} {vs : Value} (hu : P.underlying t = some (.slice el)) (hud : P.underlying u = some d) (hd : isIntT d = false)
    (hs : csz P el = some e) (he : 1 ≤ e) (hi : P.info? el = some i) (hby : i.bytes = by_) (hz : ∀ w, (zeroValue el).run P w = .ok zv w) (hzl : zv.cells.size = e) (hlen : ∀ w, (Builtin.lenOf x).run P w = .ok k w)
    (hnl : news.length = k * e) (hv : VRs β (memOf w0) new news) (hnew : Firsts P w e k x news) (hones : ones new = true) (hsv : VR β (memOf w0) (.sl (.mt b) off len cap) vs) (h : appendMt H el e by_ b off len cap k new = some (r, H')) :
    Leaves' P w0 β H H' w r (Builtin.append_ #[t, u] ty #[vs, x]) := by
  unfold appendMt at h
  split at h
  · -- nothing is added
    rename_i hat hle hk
    have hk := Nat.eq_of_beq_eq_true hk
    have hle := Nat.le_of_ble_eq_true hle
    subst hk
    injection h with h; injection h with h1 h2; subst h1; subst h2
    have hn0 : news = [] := List.eq_nil_of_length_eq_zero (by simpa using hnl)
    subst hn0
    cases hsv with
    | sl _ _ _ _ cap' c o' hl hc =>
      have := cap_le R hc
      exact ⟨_, _, _, append_room_run (base := some _) hu hud hd hs hlen (by omega) hnew rfl, .refl R, .sl _ _ _ _ _ c o' hl hc⟩
    | sl0 _ _ _ c o' ad hl hc =>
      exact ⟨_, _, _, append_room_run (base := some _) hu hud hd hs hlen (Nat.le_refl _) hnew rfl, .refl R, .sl0 _ _ _ c o' ad hl hc⟩
  · -- there is room
    rename_i hat hle hk
    have hle := Nat.le_of_ble_eq_true hle
    have hk' : k ≠ 0 := fun c => by subst c; simp at hk
    obtain ⟨H1, hw, he1⟩ := Option.map_eq_some_iff.1 h
    injection he1 with h1 h2; subst h1; subst h2
    cases hsv with
    | sl _ _ _ _ cap' c o' hl hc =>
      have := cap_le R hc
      obtain ⟨w', hst, hm⟩ := write_sound R hw hl hv
      refine ⟨_, w', _, append_room_run (base := some _) hu hud hd hs hlen (by omega) hnew (by simp only [add_plain', Nat.add_assoc]; exact hst), hm, .sl _ _ _ _ _ c o' hl hc⟩
    | sl0 _ _ _ c o' ad hl hc =>
      have := cap_le R hc; omega
  · -- it grows
    rename_i cells el' opn fam hat hle
    split at h
    · rename_i hroom hoff
      injection h with h
      simp only [Bool.and_eq_true] at hoff
      have hoff1 := Nat.le_of_ble_eq_true hoff.1
      have hroom : (len + k) * (by_ + 1) ≤ 70368744177664 := Nat.le_of_ble_eq_true hroom
      have hgt : cap < len + k := by
        rcases Nat.lt_or_ge cap (len + k) with c | c
        · exact c
        · rw [Nat.ble_eq_true_of_le c] at hle; cases hle
      obtain ⟨p, hb, hcr⟩ : ∃ p, β b = some p ∧ True := by cases hsv with
        | sl _ _ _ _ _ _ _ hl hc => obtain ⟨p, hb, _⟩ := hc; exact ⟨p, hb, trivial⟩
        | sl0 _ _ _ _ _ _ hl hc => obtain ⟨p, hb, _⟩ := hc; exact ⟨p, hb, trivial⟩
      obtain ⟨o1, o2, o3, cc, elc, fz, o4, o5, o6, us, o7, o8⟩ := R.row hb hat
      obtain ⟨d1, d2, d3, d4, d5⟩ := R.dom b p hb
      have hread : H.read (.mt b) off (len * e) = some ((cells.drop off).take (len * e)) := by
        simp only [AH.read, AH.cellsOf, hat]
        rw [Nat.ble_eq_true_of_le hoff1]
      have hN : β H.n = none := by
        cases h : β H.n with
        | none => rfl
        | some q => have := (R.dom _ _ h).1; omega
      -- the slice as the model has it
      obtain ⟨base, cap', hvs, hcap, olds, hold1, hold2, hold3, hbase⟩ : ∃ base cap', vs = .slice base len cap' ∧ CapR p off cap cap' ∧ ∃ olds, VRs β (memOf w0) ((cells.drop off).take (len * e)) olds ∧ olds.length = len * e ∧ Firsts P w e len (.slice base len cap') olds ∧
          (base = some ⟨p.c, p.o + off, none⟩ ∨ len = 0 ∧ cap' = 0) := by
        cases hsv with
        | sl _ _ _ _ cap' c o' hl hc =>
          obtain ⟨q, hq, hcr⟩ := hc
          rw [hb] at hq; injection hq with hq; subst hq
          obtain ⟨ws, h1, h2, h3⟩ := firsts_sl (P := P) R hl hread len cap'
          cases hl with | mt _ q hq =>
          rw [hb] at hq; injection hq with hq; subst hq
          exact ⟨_, cap', rfl, hcr, ws, h1, h2, h3, .inl rfl⟩
        | sl0 _ _ _ c o' ad hl hc =>
          obtain ⟨q, hq, hcr⟩ := hc
          rw [hb] at hq; injection hq with hq; subst hq
          exact ⟨_, 0, rfl, hcr, [], by simp; exact .nil, by simp, fun _ _ => by simp [Builtin.firstCells, loadCells, loadCellsFrom], .inr ⟨rfl, rfl⟩⟩
      subst hvs
      have hall : VRs β (memOf w0) ((cells.drop off).take (len * e) ++ new) (olds ++ news) := hold1.append hv
      have halll : ((cells.drop off).take (len * e) ++ new).length = (len + k) * e := by rw [hall.length, List.length_append, hold2, hnl, Nat.add_mul]
      unfold growRow at h
      by_cases hopn : (opn && Nat.beq (off + cap * e) cells.length) = true
      · simp only [Bool.and_eq_true] at hopn
        obtain ⟨ho, hend⟩ := hopn
        subst ho
        have hend := Nat.eq_of_beq_eq_true hend
        have hel : el' = el := by simpa [beq_iff] using hoff.2
        subst hel
        have hpe : p.e = e := by have := o3 rfl; rw [hs] at this; exact (Option.some.inj this).symm
        have hcr : off + cap' * e = p.r := by have := hcap.1; rw [hpe, o1] at this; exact this hend
        have hbeq : (true && Nat.beq (off + cap * e) cells.length) = true := by rw [hend]; simp
        rw [hbeq] at h
        -- the two heaps that may follow
        have fin : ∀ (Hn : AH), (∀ p' w' bound, p'.n ≤ p'.r ∧ 1 ≤ p'.e → (p'.c = w.heap.size ∨ p'.o = p.o + off) → Grew w w' p p' (p.o + off + len * e) → (∀ fam', ObjR P (β.upd H.n p') (memOf w0) w' p' (.row ((cells.drop off).take (len * e) ++ new) el' true fam')) → bound = 0 →
              Moves P w0 β (β.upd H.n p') H Hn w') → (freshSl H.n (len + k) (len + k), Hn) = (r, H') → Leaves' P w0 β H H' w r (Builtin.append_ #[t, u] ty #[.slice base len cap', x]) := by
          intro Hn hmv heq
          injection heq with h1 h2; subst h1; subst h2
          by_cases hin : len + k ≤ cap'
          · -- in place
            have hbase' : base = some ⟨p.c, p.o + off, none⟩ := by
              rcases hbase with h | ⟨h1, h2⟩
              · exact h
              · omega
            subst hbase'
            have hmul : (len + k) * e = len * e + k * e := Nat.add_mul _ _ _
            have hmul2 : (len + k) * e ≤ cap' * e := Nat.mul_le_mul_right e hin
            have hle2 : p.o + off + len * e + news.length ≤ cc.size := by omega
            have hrun := run_storeCells_cells (P := P) p.c (p.o + off + len * e) news 0 w
              (fun j hj => by rw [Nat.add_zero, cell_at o4]; simp; omega)
              (fun j hj => by
                simp only [World.frozen?, o4, Nat.add_zero]
                have := fz_free o5 (i := p.o + off + len * e + j) (by omega)
                simp only [Bool.and_eq_false_iff, decide_eq_false_iff_not]; omega)
              (ones_sound hones hv)
            rw [Nat.add_zero] at hrun
            refine ⟨_, _, β.upd H.n ⟨p.c, p.o + off, e, (len + k) * e, cap' * e⟩, append_room_run (base := some _) hu hud hd hs hlen hin hnew (by simp only [add_plain']; exact hrun), ?_, ?_⟩
            · exact hmv _ _ 0 ⟨hmul2, he⟩ (.inr rfl) (grew_in rfl o4 hle2) (fun fam' => inplace_obj R hb hat hs hpe hoff1 hv hnl hcr hin cc elc fz o4 o6) rfl
            · have := VR.sl (β := β.upd H.n ⟨p.c, p.o + off, e, (len + k) * e, cap' * e⟩) (M := memOf w0) (.mt H.n) 0 (len + k) (len + k) cap' p.c (p.o + off) (.mt H.n _ (Bt.upd_eq _ _ _)) ⟨_, Bt.upd_eq _ _ _, ⟨fun _ => by simp, fun h => absurd (by simp) h⟩⟩
              exact this
          · -- elsewhere
            obtain ⟨cap2, w', rest, hcap2, hrun, hh, hll, q1, q2, q3⟩ := append_grow_run (ty := ty) hu hud hd hs hi hby hz hzl hlen (Nat.lt_of_not_le hin) hroom hold3 hnew hold2 hnl
            refine ⟨_, w', _, hrun, hmv ⟨w.heap.size, 0, e, (len + k) * e, cap2 * e⟩ w' 0 ⟨Nat.mul_le_mul_right e hcap2, he⟩ (.inl rfl) (grew_fresh _ rfl hh q1 q2 q3) (fun fam' => fresh_row R hall hs he halll hcap2 hh hll fam') rfl, fresh_vr H β⟩
        by_cases hlc : len = cap
        · have hb2 : Nat.beq len cap = true := by rw [hlc]; simp
          rw [hb2] at h
          subst hlc
          refine fin _ (fun p' w' bound hpn hp G hobj _ => ?_) h
          exact growEnd_rel R hb hat (by rw [halll, Nat.add_mul]; omega) (by omega) hp hpn (by rw [← hend, ← Nat.add_assoc]; exact G) hobj
        · have hb2 : Nat.beq len cap = false := by rw [beq_iff]; simp [hlc]
          rw [hb2] at h
          refine fin _ (fun p' w' bound hpn hp G hobj _ => ?_) h
          exact growIn_rel R hb hat hpn G (hobj none)
      · have hbeq : (opn && Nat.beq (off + cap * e) cells.length) = false := (Bool.not_eq_true _).mp hopn
        rw [hbeq] at h
        unfold newRowA at h
        injection h with h1 h2; subst h1; subst h2
        -- the capacity is the true one
        have hcc : cap' = cap := by
          cases opn with
          | false =>
            have hr := o2 rfl
            by_cases c : off + cap * p.e = p.n
            · have h5 := hcap.1 c
              have h6 : cap' * p.e = cap * p.e := by omega
              exact Nat.eq_of_mul_eq_mul_right d5 h6
            · exact hcap.2 c
          | true =>
            have hel : el' = el := by simpa [beq_iff] using hoff.2
            subst hel
            have hpe : p.e = e := by have := o3 rfl; rw [hs] at this; exact (Option.some.inj this).symm
            refine hcap.2 ?_
            rw [hpe, o1]
            simpa [beq_iff] using hbeq
        subst hcc
        obtain ⟨cap2, w', rest, hcap2, hrun, hh, hll, q1, q2, q3⟩ := append_grow_run (ty := ty) hu hud hd hs hi hby hz hzl hlen hgt hroom hold3 hnew hold2 hnl
        exact ⟨_, _, _, hrun, grown_new R hall hs he halll hcap2 hh hll q1 q2 q3, fresh_vr H β⟩
    · cases h
  · cases h
end
end Go.VI
