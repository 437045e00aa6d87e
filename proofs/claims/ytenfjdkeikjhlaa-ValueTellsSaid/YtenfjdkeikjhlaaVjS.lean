/-
  Library functions that turn a list of numbers in place: sorted, made single.
-/
import Derived.Test.YtenfjdkeikjhlaaVj
import Derived.Sort.Grow
set_option autoImplicit false
set_option linter.unusedVariables false
set_option linter.unusedSimpArgs false
namespace Go.VI
open Go.RowKit Go.Sort

def intsOf : List AV → Option (List Int)
  | [] => some []
  | .int .i64 n :: r => (intsOf r).map (n :: ·)
  | _ => none
theorem intsOf_map : ∀ zs : List Int, intsOf (zs.map (AV.int .i64)) = some zs
  | [] => rfl
  | z :: r => by simp only [List.map_cons, intsOf, intsOf_map r, Option.map_some]
theorem ones_ints : ∀ zs : List Int, ones (zs.map (AV.int .i64)) = true
  | [] => rfl
  | z :: r => by simp only [List.map_cons, ones, AV.one, ones_ints r]
section
variable {P : Program} {w w' w0 : World} {β β' : Bt} {H H' : AH} {M : Mem}
theorem ints_vr : ∀ {cs : List AV} {zs : List Int} {vs : List Value}, intsOf cs = some zs → VRs β M cs vs → vs = zs.map (Value.int .i64) ∧ cs.length = zs.length
  | [], zs, vs, h, k => by
    simp only [intsOf, Option.some.injEq] at h
    subst h; cases k; exact ⟨rfl, rfl⟩
  | a :: r, zs, vs, h, k => by
    cases k with
    | cons x y r s h1 h2 =>
      unfold intsOf at h
      split at h
      · cases ‹_ :: _ = []›
      · rename_i n r' he
        injection he with e1 e2; subst e1; subst e2
        obtain ⟨ys, hy, rfl⟩ := Option.map_eq_some_iff.1 h
        obtain ⟨e, hl⟩ := ints_vr hy h2
        cases h1
        exact ⟨by rw [e]; rfl, by simp [hl]⟩
      · cases h
theorem vr_ints : ∀ zs : List Int, VRs β M (zs.map (AV.int .i64)) (zs.map (Value.int .i64))
  | [] => .nil
  | z :: r => .cons _ _ _ _ (.int _ _) (vr_ints r)
theorem place_moves (R : Rel P w0 β H w) {l : Loc} {off c o : Nat} {zs : List Int} (h : H.write l off (zs.map (AV.int .i64)) = some H') (hl : LocR β (memOf w0) l c o) (n : Nat) (os : Array Obj) :
    Moves P w0 β β H H' (grow (putRow (Value.int .i64) (Sort.ahead w n) c (o + off) zs.toArray) os) := by
  obtain ⟨w1, hr, hm⟩ := write_sound R h hl (vr_ints zs)
  obtain ⟨b, cells, el, op, fam, rfl, hat, hle, hone, hn, ho, hf⟩ := row_of_write h
  cases hl with | mt _ p hb =>
  obtain ⟨g1, g2, g3, cc, el', fz, g4, g5, g6, us, g7, g8⟩ := R.row hb hat
  have husl := g7.length
  obtain ⟨d1, d2, d3, d4, d5⟩ := R.dom b p hb
  have hlen := (vr_ints (β := β) (M := memOf w0) zs).length
  have hin : p.o + off + (zs.map (Value.int .i64)).length ≤ cc.size := by omega
  have hrun := run_storeCells_cells (P := P) p.c (p.o + off) (zs.map (Value.int .i64)) 0 w
    (fun j hj => by rw [Nat.add_zero, cell_at g4]; simp at hj hin ⊢; omega)
    (fun j hj => by
      simp only [World.frozen?, g4, Nat.add_zero]
      have := fz_free g5 (i := p.o + off + j) (by omega)
      simp only [Bool.and_eq_false_iff, decide_eq_false_iff_not]; omega)
    (ones_sound hone (vr_ints (β := β) (M := memOf w0) zs))
  rw [Nat.add_zero, hr] at hrun
  injection hrun with _ hw1
  subst hw1
  obtain ⟨r1, r2, r3, r4⟩ := setCells_rest (zs.map (Value.int .i64)) p.c (p.o + off) w
  have hnew := setCells_heap (zs.map (Value.int .i64)) p.c (p.o + off) w cc el' fz g4 hin
  have hoth := fun k => setCells_other (zs.map (Value.int .i64)) p.c (p.o + off) w k
  refine { hm with rel := hm.rel.frame ⟨r1.symm, r2.symm, r3.symm, ?_, fun k hk => ?_⟩ }
  · rw [r4]; simp [grow, putRow, mapBlock, Sort.ahead]
  · rw [r4] at hk
    have e1 : (grow (putRow (Value.int .i64) (Sort.ahead w n) p.c (p.o + off) zs.toArray) os).heap[k]? = (w.heap.modify p.c (onCells (putCells (Value.int .i64) (p.o + off) zs.toArray)))[k]? := by
      show (w.heap.modify p.c (onCells (putCells (Value.int .i64) (p.o + off) zs.toArray)) ++ os)[k]? = _
      rw [Array.getElem?_append_left (by simpa using hk)]
    rw [e1, Array.getElem?_modify]
    by_cases hkc : p.c = k
    · subst hkc
      rw [if_pos rfl, hnew, g4, Option.map_some]
      simp only [onCells, Option.some.injEq, Obj.cells.injEq, and_true]
      apply Array.ext_getElem?
      intro i
      simp only [List.length_map] at hin
      simp only [putCells, Array.getElem?_mapIdx, List.getElem?_toArray, List.size_toArray, List.length_map]
      by_cases c1 : i < p.o + off
      · rw [List.append_assoc, List.getElem?_append_left (by simp; omega), List.getElem?_take_of_lt c1, Array.getElem?_toList]
        cases cc[i]? with
        | none => rfl
        | some x => simp only [Option.map_some]; rw [if_neg (by omega)]
      · by_cases c2 : i < p.o + off + zs.length
        · rw [List.append_assoc, List.getElem?_append_right (by simp; omega), List.getElem?_append_left (by simp; omega)]
          have hi : i < cc.size := by omega
          rw [Array.getElem?_eq_getElem hi, Option.map_some, if_pos (by omega)]
          have e3 : (List.take (p.o + off) cc.toList).length = p.o + off := by simp; omega
          rw [e3, List.getElem?_map, List.getElem?_eq_getElem (by omega)]
          simp only [Option.map_some, Option.some.injEq, Value.int.injEq, true_and]
          rw [getElem!_pos _ _ (by simp; omega)]
          rfl
        · rw [List.append_assoc, List.getElem?_append_right (by simp; omega), List.getElem?_append_right (by simp; omega), List.getElem?_drop, Array.getElem?_toList]
          have e3 : p.o + off + zs.length + (i - (List.take (p.o + off) cc.toList).length - (List.map (Value.int .i64) zs).length) = i := by simp; omega
          rw [e3]
          cases cc[i]? with
          | none => rfl
          | some x => simp only [Option.map_some]; rw [if_neg (by omega)]
    · rw [if_neg hkc, hoth k (fun e => hkc e.symm)]
/-- f turns the numbers of its slice, in place; out: what it answers. -/
def placeA (fs : FuncId) (tr : List Int → List Int) (out : Loc → Nat → Nat → List Int → AV) (no : AV) : CallF := fun f args H =>
  match Nat.beq f fs, args with
  | true, [.nils] => some (.ret no, H)
  | true, [.sl l off n cap] => match H.read l off n with
    | some cs => match intsOf cs with
      | some zs => match Nat.ble 1 n && (Nat.ble n cap && (Nat.ble n 4611686018427387903)) with
        | true => match H.write l off ((tr zs).map (AV.int .i64)) with
          | some H' => some (.ret (out l off cap zs), H')
          | none => none
        | false => none
      | none => none
    | none => none
  | _, _ => none
structure PlaceOk (P : Program) (fs : FuncId) (tr : List Int → List Int) (out : Nat → Nat → Nat → List Int → Value) (no : Value) : Prop where
  len : ∀ zs, (tr zs).length = zs.length
  some : ∀ (blk off cap : Nat) (zs : List Int) (w : World), Holds (Value.int .i64) w blk off zs.toArray → blk < w.heap.size → zs.length < 4611686018427387904 → zs.length ≤ cap →
    Calls P fs #[.slice (some ⟨blk, off, none⟩) zs.length cap] w fun e w' => e = .returned (out blk off cap zs) ∧ ∃ n os, w' = grow (putRow (Value.int .i64) (Sort.ahead w n) blk off (tr zs).toArray) os
  none : ∀ w, Calls P fs #[.slice none 0 0] w fun e w' => e = .returned no ∧ w' = w
theorem placeA_sound {fs : FuncId} {tr : List Int → List Int} {out : Loc → Nat → Nat → List Int → AV} {no : AV} {outV : Nat → Nat → Nat → List Int → Value} {noV : Value} (E : Enters P fs) (J : PlaceOk P fs tr outV noV)
    (h1 : VR (fun _ => none) (memOf w0) no noV) (h2 : ∀ (β : Bt) l c o off cap cap' zs, LocR β (memOf w0) l c o → CapL β l off cap cap' → VR β (memOf w0) (out l off cap zs) (outV c (o + off) cap' zs)) : CallSound P w0 (placeA fs tr out no) := by
  intro f args H r H' h
  unfold placeA at h
  split at h
  · rename_i hf
    have hf := Nat.eq_of_beq_eq_true hf
    subst hf
    injection h with h; injection h with e1 e2; subst e1; subst e2
    refine ⟨E, fun β w vs R hvs => ?_⟩
    cases hvs with
    | cons x1 y1 r1 s1 g1 gr1 =>
    cases gr1
    cases g1
    refine (J.none w).mono fun e w' ⟨he, hw⟩ => ?_
    subst hw
    exact ⟨β, ⟨Bt.le_refl β, R, Nat.le_refl _, fun b _ hn => ⟨hn, rfl⟩⟩, _, he, h1.mono (fun b p hb => by cases hb)⟩
  · rename_i l off n cap hf
    have hf := Nat.eq_of_beq_eq_true hf
    subst hf
    split at h
    case h_2 => cases h
    rename_i cs hcs
    split at h
    case h_2 => cases h
    rename_i zs hzs
    split at h
    case h_2 => cases h
    rename_i hb
    split at h
    case h_2 => cases h
    rename_i H2 hw
    injection h with h; injection h with e1 e2; subst e1; subst e2
    simp only [Bool.and_eq_true] at hb
    obtain ⟨b1, b2, b3⟩ := hb
    have b1 := Nat.le_of_ble_eq_true b1
    have b2 := Nat.le_of_ble_eq_true b2
    have b3 := Nat.le_of_ble_eq_true b3
    refine ⟨E, fun β w vs R hvs => ?_⟩
    cases hvs with
    | cons x1 y1 r1 s1 g1 gr1 =>
    cases gr1
    cases g1 with
    | sl0 l off cap c o a h hc => omega
    | sl l off len cap cap' c o hl hc =>
      obtain ⟨hlen, ws, hws, hread⟩ := read_sound R hl hcs
      obtain ⟨rfl, hl2⟩ := ints_vr hzs hws
      have hc2 := cap_le R hc
      have hn : n = zs.length := by omega
      subst hn
      have hfz := R
      obtain ⟨b, cells, el, op, fam, rfl, hat, hle, hone, -, -, -⟩ := row_of_write hw
      have hl' := hl
      cases hl with | mt _ p hb =>
      obtain ⟨q1, q2, q3, cc, el', fz, q4, q5, q6, us, q7, q8⟩ := R.row hb hat
      obtain ⟨d1, d2, d3, d4, d5⟩ := R.dom b p hb
      have husl := q7.length
      have htr := J.len zs
      rw [List.length_map] at hle
      have hH : Holds (Value.int .i64) w p.c (p.o + off) zs.toArray := by
        intro j hj
        simp only [List.size_toArray] at hj
        refine ⟨?_, ?_⟩
        · rw [hread j (.int .i64 zs[j]) (by rw [List.getElem?_map, List.getElem?_eq_getElem hj]; rfl)]
          rw [getElem!_pos _ _ (by simpa using hj)]; simp
        · simp only [World.frozen?, q4]
          have := fz_free q5 (i := p.o + off + j) (by omega)
          simp only [Bool.and_eq_false_iff, decide_eq_false_iff_not]; omega
      refine (J.some p.c (p.o + off) cap' zs w hH d3 (by omega) (by omega)).mono fun e w' ⟨he, k, os, hw'⟩ => ?_
      subst hw'
      exact ⟨β, place_moves R hw hl' k os, _, he, h2 β _ _ _ _ _ _ _ hl' hc⟩
  · cases h
theorem splice_win0 {cells vs : List AV} {off m : Nat} (h : off + vs.length ≤ cells.length) (hm : vs.length = m) : ((splice cells off vs).drop off).take m = vs := by
  subst hm
  unfold splice
  rw [List.append_assoc]
  rw [List.drop_append, List.drop_of_length_le (by simp; omega), List.nil_append, show off - (cells.take off).length = 0 by simp; omega, List.drop_zero, List.take_append_of_le_length (Nat.le_refl _), List.take_length]
theorem fin_placeN {orc : CallF} {fs : FuncId} {tr : List Int → List Int} {out : Loc → Nat → Nat → List Int → AV} {no : AV} (W : Wf H) (ho : ∀ a H, orc fs a H = placeA fs tr out no fs a H) :
    Fin P orc fs [.nils] H (fun r H' => r = no ∧ H' = H) := ⟨no, H, ⟨0, by show orc fs _ _ = _; rw [ho]; simp only [placeA, Nat.beq_refl]⟩, rfl, rfl⟩
theorem fin_place {orc : CallF} {fs : FuncId} {tr : List Int → List Int} {out : Loc → Nat → Nat → List Int → AV} {no : AV} (W : Wf H) (ho : ∀ a H, orc fs a H = placeA fs tr out no fs a H) (hlen : ∀ zs, (tr zs).length = zs.length)
    {el : TypeId} {off cap n b : Nat} {zs : List Int} {fm : Option Nat} (O : Own H el 1 (.sl (.mt b) off n cap) n (zs.map (AV.int .i64)) b fm) (h1 : 1 ≤ n) (hn : n ≤ 4611686018427387903) :
    Fin P orc fs [.sl (.mt b) off n cap] H (fun r H' => r = out (.mt b) off cap zs ∧ Own H' el 1 (.sl (.mt b) off n cap) n ((tr zs).map (AV.int .i64)) b fm ∧ Wf H' ∧ H'.n = H.n ∧ Keeps H H' b fm) := by
  have hl := O.len
  rw [List.length_map] at hl
  have hrd := (own_read O).2.2
  obtain ⟨off2, cap2, cells, op, fam, h0, ha, hf, hle, hcs, hcap, hroom⟩ := O
  injection h0 with q1 q2 q3 q4; subst q2; subst q4
  have htl := hlen zs
  obtain ⟨H', w1, w2, w3, w4, w5⟩ := write_own W ha (off := off) (vs := (tr zs).map (AV.int .i64)) (by rw [List.length_map]; omega) (ones_ints _)
  refine ⟨_, H', ⟨0, ?_⟩, rfl, ?_, w3, w2, by rw [← hf]; exact w5⟩
  · show orc fs _ _ = _
    rw [ho]
    rw [Nat.mul_one] at hrd
    simp only [placeA, Nat.beq_refl, hrd, intsOf_map, bleT h1, bleT hcap, bleT hn, Bool.and_self, w1]
  · exact ⟨off, cap, _, op, fam, rfl, w4, hf, by rw [splice_length (by rw [List.length_map]; omega)]; omega, splice_win0 (by rw [List.length_map]; omega) (by rw [List.length_map]; omega), hcap, by rw [splice_length (by rw [List.length_map]; omega)]; omega⟩
end
end Go.VI
