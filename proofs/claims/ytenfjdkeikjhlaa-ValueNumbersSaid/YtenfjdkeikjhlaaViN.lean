/-
  append, as the abstract machine has it: all together.
-/
import Derived.Test.YtenfjdkeikjhlaaViM
set_option autoImplicit false
set_option linter.unusedVariables false
namespace Go.VI
open Go.RowKit

section
variable {P : Program} {w w' w0 : World} {β β' : Bt} {H H' : AH} {nt : Nat} {e : Env} {a : Act} {M : Mem}

set_option maxHeartbeats 4000000 in
theorem append_room_run {t ty el u : TypeId} {d : TypeDesc} {e len cap k : Nat} {base : Option Addr} {x : Value} {new : List Value} (hu : P.underlying t = some (.slice el)) (hud : P.underlying u = some d) (hd : isIntT d = false)
    (hs : csz P el = some e) (hlen : ∀ w, (Builtin.lenOf x).run P w = .ok k w) (hroom : len + k ≤ cap) (hnew : Firsts P w e k x new)
    (hst : match base with | some a => (storeCells (a.add (len * e)) new).run P w = .ok () w' | none => w' = w) :
    (Builtin.append_ #[t, u] ty #[.slice base len cap, x]).run P w = .ok (.slice base (len + k) cap) w' := by
  have hf := hnew w rfl
  cases base with
  | none =>
    simp only at hst
    subst hst
    cases d <;> first | (cases hd; done) | skip
    all_goals
      simp [Builtin.append_, run_underlying hu, run_underlying hud, run_csz hs, hlen, hroom, hf]
  | some a =>
    simp only at hst
    cases d <;> first | (cases hd; done) | skip
    all_goals
      simp [Builtin.append_, run_underlying hu, run_underlying hud, run_csz hs, hlen, hroom, hf, hst]

theorem cell_heap {w w' : World} (h : w'.heap = w.heap) (x : Addr) : w'.cell? x = w.cell? x := by unfold World.cell?; rw [h]
theorem firsts_sl (R : Rel P w0 β H w) {l : Loc} {c o off n e : Nat} {cs : List AV} (hl : LocR β (memOf w0) l c o) (h : H.read l off (n * e) = some cs) (len cap : Nat) :
    ∃ ws, VRs β (memOf w0) cs ws ∧ ws.length = n * e ∧ Firsts P w e n (.slice (some ⟨c, o + off, none⟩) len cap) ws := by
  obtain ⟨hlen, vs, hv, hc⟩ := read_sound R hl h
  refine ⟨vs, hv, by have := hv.length; omega, fun w' hw => ?_⟩
  have := run_cells (P := P) (w := w') c (o + off) vs (fun j v e => by rw [cell_heap hw]; exact hc j v e)
  simp only [Builtin.firstCells]
  rw [← this]
  congr 2
  have := hv.length; omega
theorem bytes_take (s : ByteArray) (n : Nat) : VRs β M (bytesA (s.data.toList.take n)) ((s.extract 0 n).data.map fun b => Value.int .u8 b.toNat).toList := by
  have e : s.data.toList.take n = (s.extract 0 n).data.toList := by simp [ByteArray.data_extract, List.extract_eq_take_drop]
  rw [e]; exact bytes_vr _
/-- The cells of what is appended or copied. -/
theorem src_sound (R : Rel P w0 β H w) {e k : Nat} {v : AV} {vx : Value} {new : List AV} (h : srcCells H e v = some (k, new)) (hv : VR β (memOf w0) v vx) :
    ∃ ws, VRs β (memOf w0) new ws ∧ ws.length = k * e ∧ (∀ w, (Builtin.lenOf vx).run P w = .ok k w) ∧ Firsts P w e k vx ws := by
  unfold srcCells at h
  split at h
  · injection h with h; injection h with h1 h2; subst h1; subst h2
    cases hv
    exact ⟨[], .nil, by simp, fun w => rfl, fun w' _ => rfl⟩
  · rename_i s
    split at h
    · rename_i he
      injection h with h; injection h with h1 h2; subst h1; subst h2; subst he
      generalize hq : AV.str s = q at hv
      cases hv <;> cases hq
      rename_i s
      have := bytes_take (β := β) (M := memOf w0) s s.data.toList.length
      rw [List.take_length] at this
      rw [str_len] at this ⊢
      refine ⟨_, this, by simp, fun w => rfl, fun w' _ => by simp [Builtin.firstCells, map_arr]⟩
    · cases h
  · rename_i l o n cap
    split at h
    · rename_i cs hr
      injection h with h; injection h with h1 h2; subst h1; subst h2
      cases hv with
      | sl _ _ _ _ cap' c o' hl hc =>
        obtain ⟨ws, h1, h2, h3⟩ := firsts_sl (P := P) R hl hr n cap'
        exact ⟨ws, h1, h2, fun w => rfl, h3⟩
      | sl0 _ _ _ c o' ad hl hc =>
        obtain ⟨hlen, vs, hv', hc'⟩ := read_sound R hl hr
        simp only [Nat.zero_mul] at hlen
        have : cs = [] := List.eq_nil_of_length_eq_zero hlen
        subst this
        cases hv'
        exact ⟨[], .nil, by simp, fun w => rfl, fun w' _ => by simp [Builtin.firstCells, loadCells, loadCellsFrom]⟩
    · cases h
  · cases h

/-- What append leaves. -/
def Leaves' (P : Program) (w0 : World) (β : Bt) (H H' : AH) (w : World) (v : AV) (s : Sem Value) : Prop :=
  ∃ v' w' β', s.run P w = .ok v' w' ∧ Moves P w0 β β' H H' w' ∧ VR β' (memOf w0) v v'
theorem Moves.refl (R : Rel P w0 β H w) : Moves P w0 β β H H w := ⟨Bt.le_refl _, R, Nat.le_refl _, fun b _ h => ⟨h, rfl⟩⟩

/-- A row that has grown elsewhere. -/
theorem fresh_row (R : Rel P w0 β H w) {cells : List AV} {ws rest : List Value} {el : TypeId} {e n cap' : Nat} (hv : VRs β (memOf w0) cells ws) (hs : csz P el = some e) (he : 1 ≤ e) (hl : cells.length = n * e) (hcap : n ≤ cap')
    (hh : w'.heap = w.heap.push (.cells (ws ++ rest).toArray el)) (hr : (ws ++ rest).length = cap' * e) (fam : Option (Nat × Nat)) :
    ObjR P (β.upd H.n ⟨w.heap.size, 0, e, n * e, cap' * e⟩) (memOf w0) w' ⟨w.heap.size, 0, e, n * e, cap' * e⟩ (.row cells el true fam) := by
  have hN : β H.n = none := by
    cases h : β H.n with
    | none => rfl
    | some q => have := (R.dom _ _ h).1; omega
  refine ⟨hl.symm, (fun h => by cases h), fun _ => hs, (ws ++ rest).toArray, el, (0, 0), by rw [hh]; simp, .inl rfl, by simp only [List.size_toArray]; omega, ws, hv.mono (Bt.le_upd hN _), fun i v e => ?_⟩
  simp only [Nat.zero_add, List.getElem?_toArray]
  rw [List.getElem?_append_left (List.getElem?_eq_some_iff.1 e).1]; exact e
theorem fresh_vr {e n cap' c : Nat} (H : AH) (β : Bt) : VR (β.upd H.n ⟨c, 0, e, n * e, cap' * e⟩) M (freshSl H.n n n) (.slice (some ⟨c, 0, none⟩) n cap') := by
  refine sl_new _ _ _ _ _ _ _ rfl ⟨fun _ => by simp, fun h => absurd (by simp) h⟩
theorem grew_fresh {p p' : Pl} {o : Obj} (bound : Nat) (hp : p'.c = w.heap.size) (hh : w'.heap = w.heap.push o) (h1 : w'.os = w.os) (h2 : w'.tape = w.tape) (h3 : w'.output = w.output) : Grew w w' p p' bound :=
  ⟨h1, h2, h3, by rw [hh]; simp, by rw [hh, hp]; simp, fun k hk => by
    rw [hh, Array.getElem?_push]
    split
    · omega
    · rfl, .inl hp⟩

theorem grown_new (R : Rel P w0 β H w) {all : List AV} {olds news rest : List Value} {el : TypeId} {e n cap' : Nat} (hv : VRs β (memOf w0) all (olds ++ news)) (hs : csz P el = some e) (he : 1 ≤ e) (hl : all.length = n * e) (hcap : n ≤ cap')
    (hh : w'.heap = w.heap.push (.cells (olds ++ news ++ rest).toArray el)) (hr : (olds ++ news ++ rest).length = cap' * e) (h1 : w'.os = w.os) (h2 : w'.tape = w.tape) (h3 : w'.output = w.output) :
    Moves P w0 β (β.upd H.n ⟨w.heap.size, 0, e, n * e, cap' * e⟩) H (H.push (.row all el true none)) w' :=
  newRow_rel R rfl (by simp) rfl ⟨Nat.mul_le_mul_right e hcap, he⟩ hh h1 h2 h3 (fresh_row R hv hs he hl hcap hh hr none)

theorem appendNil_sound (R : Rel P w0 β H w) {t u ty el : TypeId} {d : TypeDesc} {e by_ k : Nat} {x : Value} {i : TypeInfo} {zv : Value} {new : List AV} {news : List Value} {r : AV} (hu : P.underlying t = some (.slice el)) (hud : P.underlying u = some d) (hd : isIntT d = false)
    (hs : csz P el = some e) (he : 1 ≤ e) (hi : P.info? el = some i) (hby : i.bytes = by_) (hz : ∀ w, (zeroValue el).run P w = .ok zv w) (hzl : zv.cells.size = e) (hlen : ∀ w, (Builtin.lenOf x).run P w = .ok k w)
    (hnl : news.length = k * e) (hv : VRs β (memOf w0) new news) (hnew : Firsts P w e k x news) (h : appendNil H el by_ k new = some (r, H')) :
    Leaves' P w0 β H H' w r (Builtin.append_ #[t, u] ty #[.slice none 0 0, x]) := by
  unfold appendNil at h
  split at h
  · rename_i hk
    have hk := Nat.eq_of_beq_eq_true hk
    subst hk
    injection h with h; injection h with h1 h2; subst h1; subst h2
    exact ⟨_, _, _, append_room_run (base := none) hu hud hd hs hlen (Nat.le_refl _) hnew rfl, .refl R, .nils⟩
  · rename_i hk hr
    injection h with h; unfold newRowA at h; injection h with h1 h2; subst h1; subst h2
    have hk' : k ≠ 0 := fun c => by subst c; simp at hk
    have hroom : k * (by_ + 1) ≤ 70368744177664 := Nat.le_of_ble_eq_true hr
    obtain ⟨cap', w', rest, hcap, hrun, hh, hl, q1, q2, q3⟩ := append_grow_run (ty := ty) (base := none) (len := 0) (cap := 0) (old := []) hu hud hd hs hi hby hz hzl hlen (by omega) (by rw [Nat.zero_add]; exact hroom) (fun _ _ => rfl) hnew (by simp) hnl
    rw [Nat.zero_add] at hrun hcap
    exact ⟨_, _, _, hrun, grown_new R (by simpa using hv) hs he (by rw [hv.length, hnl]) hcap hh hl q1 q2 q3, fresh_vr H β⟩
  · cases h

theorem appendIm_sound (R : Rel P w0 β H w) {t u ty el : TypeId} {d : TypeDesc} {e by_ k : Nat} {x : Value} {i : TypeInfo} {zv : Value} {new : List AV} {news : List Value} {r : AV} {cells : List AV} {off len cap : Nat} {vs : Value} (hu : P.underlying t = some (.slice el)) (hud : P.underlying u = some d) (hd : isIntT d = false)
    (hs : csz P el = some e) (he : 1 ≤ e) (hi : P.info? el = some i) (hby : i.bytes = by_) (hz : ∀ w, (zeroValue el).run P w = .ok zv w) (hzl : zv.cells.size = e) (hlen : ∀ w, (Builtin.lenOf x).run P w = .ok k w)
    (hnl : news.length = k * e) (hv : VRs β (memOf w0) new news) (hnew : Firsts P w e k x news) (hsv : VR β (memOf w0) (.sl (.im cells) off len cap) vs) (h : appendIm H el e by_ cells off len cap k new = some (r, H')) :
    Leaves' P w0 β H H' w r (Builtin.append_ #[t, u] ty #[vs, x]) := by
  unfold appendIm at h
  split at h
  · rename_i h1 h2
    have hk := Nat.eq_of_beq_eq_true h2
    have hle := Nat.le_of_ble_eq_true h1
    subst hk
    injection h with h; injection h with h1 h2; subst h1; subst h2
    have hn0 : news = [] := List.eq_nil_of_length_eq_zero (by simpa using hnl)
    subst hn0
    cases hsv with
    | sl _ _ _ _ cap' c o' hl hc =>
      have hc' : cap' = cap := hc
      subst hc'
      exact ⟨_, _, _, append_room_run (base := some _) hu hud hd hs hlen (by omega) hnew rfl, .refl R, .sl _ _ _ _ _ c o' hl hc⟩
    | sl0 _ _ _ c o' ad hl hc =>
      exact ⟨_, _, _, append_room_run (base := some _) hu hud hd hs hlen (Nat.le_refl _) hnew rfl, .refl R, .sl0 _ _ _ c o' ad hl hc⟩
  · rename_i old hle hroom hread
    injection h with h; unfold newRowA at h; injection h with h1 h2; subst h1; subst h2
    have hgt : cap < len + k := by
      rcases Nat.lt_or_ge cap (len + k) with c | c
      · exact c
      · rw [Nat.ble_eq_true_of_le c] at hle; cases hle
    have hroom : (len + k) * (by_ + 1) ≤ 70368744177664 := Nat.le_of_ble_eq_true hroom
    cases hsv with
    | sl _ _ _ _ cap' c o' hl hc =>
      have hc' : cap' = cap := hc
      subst hc'
      obtain ⟨ws, h1, h2, h3⟩ := firsts_sl (P := P) R hl hread len cap'
      obtain ⟨cap2, w', rest, hcap, hrun, hh, hll, q1, q2, q3⟩ := append_grow_run (ty := ty) hu hud hd hs hi hby hz hzl hlen hgt hroom h3 hnew h2 hnl
      refine ⟨_, _, _, hrun, grown_new R (h1.append hv) hs he ?_ hcap hh hll q1 q2 q3, fresh_vr H β⟩
      rw [List.length_append, h1.length, hv.length, h2, hnl, Nat.add_mul]
    | sl0 _ _ _ c o' ad hl hc =>
      have hc' : cap = 0 := (hc : 0 = cap).symm
      subst hc'
      obtain ⟨hl0, vs, hvs, hc'⟩ := read_sound R hl hread
      rw [Nat.zero_mul] at hl0
      have : old = [] := List.eq_nil_of_length_eq_zero hl0
      subst this
      obtain ⟨cap2, w', rest, hcap, hrun, hh, hll, q1, q2, q3⟩ := append_grow_run (ty := ty) (base := some ad) (len := 0) (cap := 0) (old := []) hu hud hd hs hi hby hz hzl hlen hgt hroom (fun _ _ => by simp [Builtin.firstCells, loadCells, loadCellsFrom]) hnew (by simp) hnl
      refine ⟨_, _, _, hrun, grown_new (n := 0 + k) R (by simpa using hv) hs he ?_ hcap hh hll q1 q2 q3, fresh_vr H β⟩
      rw [List.nil_append, hv.length, hnl, Nat.zero_add]
  · cases h
end
end Go.VI
