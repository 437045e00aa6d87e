/-
  copy(v, l) of rows of any kind, and elements that came in or are made.
-/
import Derived.Test.YtapagakfckjhdaaWApart
import Derived.Test.YtapagakfckjhdaaWMore
import Derived.WalkKit
set_option autoImplicit false
set_option linter.unusedVariables false
set_option linter.unusedSimpArgs false
namespace Go.Proofs.YtapagakfckjhdaaW.PrintWords
open Go.RowKit
theorem run_copy_rows {P : Program} (w : World) (dT sT ty elem : TypeId) (b o dLen dCap : Nat) (a : Addr) (sLen sCap s : Nat) (cs : List Value)
    (hu : P.underlying dT = some (.slice elem)) (hs : (P.info? elem).map (·.size) = some s) (hn : cs.length = Nat.min sLen dLen * s)
    (hsrc : ∀ j v, cs[j]? = some v → w.cell? (a.add j) = some v) (hc : ∀ j, j < cs.length → (w.cell? ⟨b, o + j, none⟩).isSome = true) (hf : ∀ j, j < cs.length → w.frozen? ⟨b, o + j, none⟩ = false) (h1 : ∀ v ∈ cs, v.oneCell' = true) :
    (Builtin.copy_ #[dT, sT] ty #[.slice (some ⟨b, o, none⟩) dLen dCap, .slice (some a) sLen sCap]).run P w = .ok (goInt (Nat.min sLen dLen : Nat)) (w.setCells b o cs) := by
  have hl := run_loadCells_list (P := P) w a cs hsrc
  have hst := run_storeCells_cells (P := P) b o cs 0 w (by simpa using hc) (by simpa using hf) h1
  cases hq : P.info? elem with
  | none => simp [hq] at hs
  | some i =>
    have hi : i.size = s := by simpa [hq] using hs
    simp [Builtin.copy_, run_underlying hu, Builtin.lenOf, Builtin.firstCells, sizeOf, typeInfo, hq, hi, ← hn, hl, hst]
theorem run_copy_rows_none {P : Program} (w : World) (dT sT ty elem : TypeId) (d a : Option Addr) (dLen dCap sLen sCap s : Nat) (hu : P.underlying dT = some (.slice elem)) (hs : (P.info? elem).map (·.size) = some s) (hn : Nat.min sLen dLen = 0) :
    (Builtin.copy_ #[dT, sT] ty #[.slice d dLen dCap, .slice a sLen sCap]).run P w = .ok (goInt 0) w := by
  cases hq : P.info? elem with
  | none => simp [hq] at hs
  | some i =>
    have hl : ∀ (x : Addr), (loadCells x 0).run P w = .ok #[] w := fun x => by simpa using run_loadCells_list (P := P) w x [] (by simp)
    cases d <;> cases a <;> simp [Builtin.copy_, run_underlying hu, Builtin.lenOf, Builtin.firstCells, sizeOf, typeInfo, hq, hn, storeCells, hl]

namespace Kd
/-- An element that came in (as it was read in w0), or one that is made: which, the flag says. -/
def alt {α : Type} (d : Kd α) (w0 : World) : Kd (α × Bool) where
  sz := d.sz
  E := d.E
  K := fun w x cs => if x.2 = true then d.K w x.1 cs else d.K w0 x.1 cs
  M := fun w base ok x cs => if x.2 = true then d.M w base ok x.1 cs else d.K w0 x.1 cs
  K_len := by rintro w ⟨x, b⟩ cs h; cases b <;> exact d.K_len h
  K_one := by rintro w ⟨x, b⟩ cs h; cases b <;> exact d.K_one h
  K_below := by rintro w w1 ⟨x, b⟩ cs hb h; cases b; exact h; exact d.K_below hb h
  K_of_M := by rintro w base ok ⟨x, b⟩ cs h; cases b; exact h; exact d.K_of_M h
  M_mono := by rintro w base ok ok' ⟨x, b⟩ cs hok h; cases b; exact h; exact d.M_mono hok h
  M_bound := by rintro w base ok ⟨x, b⟩ cs h; cases b; exact h; exact d.M_bound h
  M_move := by rintro w w1 base ok ⟨x, b⟩ cs hm h; cases b; exact h; exact d.M_move hm h
  M_lower := by rintro w base base' ok ⟨x, b⟩ cs hb h; cases b; exact h; exact d.M_lower hb h
section
variable {α : Type} {d : Kd α} {w0 w : World} {base e : Nat} {ok : Nat → Prop} {v : Value}
theorem alt_made {x : α} {cs : List Value} (h : d.M w base ok x cs) : (alt d w0).M w base ok (x, true) cs := h
theorem alt_came {x : α} {cs : List Value} (h : (alt d w0).M w base ok (x, false) cs) : d.K w0 x cs := h
theorem zipIdx_map {β : Type} (f : α → β) (xs : List α) : (xs.map f).zipIdx = xs.zipIdx.map fun p => (f p.1, p.2) := by
  apply List.ext_getElem?
  intro j
  simp only [List.getElem?_zipIdx, List.getElem?_map, Nat.zero_add]
  cases xs[j]? <;> rfl
/-- All are made. -/
theorem alt_all {xs : List α} (h : S (alt d w0) e w base ok v (xs.map (·, true))) : S d e w base ok v xs := by
  obtain ⟨f, h0, inner, ho, hr⟩ := h
  refine ⟨f, h0, inner, ?_, ?_, fun j p hj => ?_⟩
  · rw [List.length_zipIdx, List.length_map] at ho; rw [List.length_zipIdx]; exact ho
  · have := hr.1; rw [List.length_zipIdx, List.length_map] at this; rw [List.length_zipIdx]; exact this
  · have := hr.2 j ((p.1, true), p.2) (by rw [zipIdx_map, List.getElem?_map, hj]; rfl)
    exact this
variable {P : Program} {ops : Array Oper} {rest : List Oper} {o : Oper} {a : Act} {Q : Exit → Act → World → Prop}
/-- copy(v, l): v has just been made (its elements lead nowhere). -/
theorem S_copy {W : World} (hgd : o.guard = none) (s x : Operand) (t t' e : TypeId)
    (ho : o.op = .call { callee := .builtin .copy, args := #[s, x], argTypes := #[t, t'] }) (ht : P.underlying t = some (.slice e)) (hinfo : (P.info? e).map (·.size) = some d.sz) (hs0 : 0 < d.sz)
    (v : Value) (xs ys : List α) (A : Option Addr) (c : Nat) (hs : a.eval s = v) (hx : a.eval x = .slice A ys.length c)
    (HO : (bare d).R e W base ok v xs) (HR : d.C w0 A ys.length ys) (hb : Below w0.heap.size w0 W) (HB : Below base w0 W) (hbase : base ≤ W.heap.size) (hle : ys.length ≤ xs.length)
    (h : ∀ w1, S (alt d w0) e w1 base ok v (ys.map (·, false) ++ (xs.drop ys.length).map (·, true)) → Below base w0 w1 → W.grownBy w1 v.ownBlock → wpList P ops Q rest (a.put o.dst (.int .i64 (ys.length : Int))) w1) :
    wpList P ops Q (o :: rest) a W := by
  have hmin : Nat.min ys.length xs.length = ys.length := Nat.min_eq_left hle
  obtain ⟨h0, inner, hown, hr⟩ := HO
  have fin : ∀ w1, (Builtin.copy_ #[t, t'] o.type #[v, .slice A ys.length c]).run P W = .ok (goInt (ys.length : Int)) w1 → S (alt d w0) e w1 base ok v (ys.map (·, false) ++ (xs.drop ys.length).map (·, true)) → W.grownBy w1 v.ownBlock → wpList P ops Q (o :: rest) a W := by
    intro w1 hrun hrow hg
    refine wpList_plain hgd fun K hK => ?_
    unfold Oper.wp execOp
    simp only [ho, resolve, invoke, builtin, Sem.run_bind, Sem.run_pure, Result.andThen_ok, List.map_toArray, List.map_cons, List.map_nil, hs, hx, hrun]
    exact hK _ _ (h w1 hrow (HB.grown hg hbase (own_base hown)) hg)
  have hil : inner.length = xs.length * d.sz := hr.1
  rcases Nat.eq_zero_or_pos ys.length with hz | hp
  · obtain rfl : ys = [] := List.eq_nil_of_length_eq_zero hz
    obtain ⟨A', c', hv⟩ := own_slice hown
    refine fin W ?_ (S_bare ⟨h0, inner, by simp only [List.map_nil, List.nil_append, List.length_nil, List.drop_zero, List.length_map]; exact hown, by simp only [List.map_nil, List.nil_append, List.length_nil, List.drop_zero, List.length_map]; exact hr.1, fun j p hj => ?_⟩) (World.grownBy.refl W _)
    · rw [hv]
      exact run_copy_rows_none W t t' o.type e A' A xs.length c' 0 c d.sz ht hinfo (by simp)
    · simp only [List.map_nil, List.nil_append, List.length_nil, List.drop_zero, List.getElem?_map] at hj
      obtain ⟨q, hq, rfl⟩ := Option.map_eq_some_iff.1 hj
      exact hr.2 j q hq
  · obtain ⟨srcs, hrep, hcell⟩ : ∃ srcs : List Value, Reps (d.K w0) d.sz ys srcs ∧ ∃ ad, A = some ad ∧ ∀ j u, srcs[j]? = some u → w0.cell? (ad.add j) = some u := by
      obtain ⟨ad, hA, _⟩ := HR.2.2 hp
      subst hA
      obtain ⟨srcs, h1, h2⟩ := ReadsRow.inner_ HR
      exact ⟨srcs, h1, ad, rfl, h2⟩
    obtain ⟨ad, hA, hsrc0⟩ := hcell
    have hsl : srcs.length = ys.length * d.sz := hrep.1
    have hsrc : ∀ j u, srcs[j]? = some u → W.cell? (ad.add j) = some u := fun j u hu => pw_cell_below hb (hsrc0 j u hu)
    have hone : ∀ u ∈ srcs, u.oneCell' = true := by
      intro u hu
      obtain ⟨j, hj, rfl⟩ := List.mem_iff_getElem.1 hu
      have hjd : j / d.sz < ys.length := by rw [hsl] at hj; exact Nat.div_lt_of_lt_mul (by rw [Nat.mul_comm]; exact hj)
      have hk := hrep.2 (j / d.sz) _ (List.getElem?_eq_getElem hjd)
      refine d.K_one hk _ ?_
      have hm : j % d.sz < d.sz := Nat.mod_lt _ hs0
      have he : j / d.sz * d.sz + j % d.sz = j := by rw [Nat.mul_comm]; exact Nat.div_add_mod j d.sz
      refine List.mem_iff_getElem?.2 ⟨j % d.sz, ?_⟩
      rw [List.getElem?_take, if_pos hm, List.getElem?_drop, he, List.getElem?_eq_getElem hj]
    rcases hown.2 with ⟨_, hx0⟩ | ⟨g, cap, cur, hv, hbg, hh, hnc, hcm, hcs, htake⟩
    · omega
    replace hcs : cur.size = cap * d.sz := hcs
    have hle2 : ys.length * d.sz ≤ xs.length * d.sz := Nat.mul_le_mul_right _ hle
    have hle3 : xs.length * d.sz ≤ cap * d.sz := Nat.mul_le_mul_right _ hnc
    have hrun := run_copy_rows (P := P) W t t' o.type e g 0 xs.length cap ad ys.length c d.sz srcs ht hinfo (by rw [hmin, hsl]) hsrc
      (fun j hj => by rw [cell_of_row W g _ cur e (0, 0) hh, Nat.zero_add, Array.getElem?_eq_getElem (by rw [hcs]; omega)]; rfl) (fun j _ => blk_frozen hh _) hone
    rw [hmin] at hrun
    obtain ⟨cur', h3, h4, h5⟩ := setCells_row srcs 0 W cur hh (by omega)
    obtain ⟨s1, s2, s3, s4⟩ := setCells_same g srcs 0 W
    have hg : W.grownBy (W.setCells g 0 srcs) v.ownBlock := ⟨s1, s2, s3, by rw [s4]; exact Nat.le_refl _, fun k _ hk => setCells_far _ _ k (fun he => hk (by rw [hv, he]; simp [Value.ownBlock]))⟩
    have hnl : (ys.map (fun y => (y, false)) ++ (xs.drop ys.length).map (fun y => (y, true))).length = xs.length := by
      simp only [List.length_append, List.length_map, List.length_drop]; omega
    refine fin _ (by rw [hv, hA]; exact hrun) (S_bare ⟨h0, srcs ++ inner.drop srcs.length, ?_, ?_, fun j p hj => ?_⟩) hg
    · show (W.setCells g 0 srcs).ownsRow base e d.sz v _ _
      rw [hnl]
      refine ⟨by rw [List.length_append, List.length_drop, hil]; omega, .inr ⟨g, cap, cur', hv, hbg, h3, hnc, hcm, by rw [h4, hcs], ?_⟩⟩
      rw [h5, List.take_zero, List.nil_append, Nat.zero_add, List.take_append, List.take_of_length_le (by omega)]
      congr 1
      rw [← htake, List.drop_take]
      rfl
    · show (srcs ++ inner.drop srcs.length).length = _ * d.sz
      rw [hnl, List.length_append, List.length_drop, hil]; omega
    · show (bare (alt d w0)).M _ _ _ p (((srcs ++ inner.drop srcs.length).drop (j * d.sz)).take d.sz)
      rcases Nat.lt_or_ge j ys.length with hjl | hjl
      · rw [List.getElem?_append_left (by simpa using hjl), List.getElem?_map] at hj
        obtain ⟨q, hq, rfl⟩ := Option.map_eq_some_iff.1 hj
        have hk := hrep.2 j q hq
        have hjs : j * d.sz + d.sz ≤ srcs.length := by rw [hsl, ← Nat.succ_mul]; exact Nat.mul_le_mul_right _ hjl
        have he : ((srcs ++ inner.drop srcs.length).drop (j * d.sz)).take d.sz = (srcs.drop (j * d.sz)).take d.sz := by
          rw [List.drop_append, List.take_append_of_le_length (by rw [List.length_drop]; omega)]
        rw [he]
        exact hk
      · rw [List.getElem?_append_right (by simpa using hjl), List.getElem?_map, List.length_map, List.getElem?_drop] at hj
        obtain ⟨q, hq, rfl⟩ := Option.map_eq_some_iff.1 hj
        rw [Nat.add_sub_cancel' hjl] at hq
        have hk : d.M W base (fun _ => False) q ((inner.drop (j * d.sz)).take d.sz) := hr.2 j q hq
        have hjs : srcs.length ≤ j * d.sz := by rw [hsl]; exact Nat.mul_le_mul_right _ hjl
        have he : ((srcs ++ inner.drop srcs.length).drop (j * d.sz)).take d.sz = (inner.drop (j * d.sz)).take d.sz := by
          rw [List.drop_append, List.drop_eq_nil_of_le (by omega), List.nil_append, List.drop_drop]
          congr 2
          omega
        rw [he]
        exact d.M_move (fun _ hk => hk.elim) hk
end
end Kd
theorem copy_fill {α : Type} (l : List α) (z : α) : List.take (min l.length (List.replicate ((l.length : Int) + 1).toNat z).length) l ++ List.drop (min l.length (List.replicate ((l.length : Int) + 1).toNat z).length) (List.replicate ((l.length : Int) + 1).toNat z) = l ++ [z] := by
  have h : ((l.length : Int) + 1).toNat = l.length + 1 := by omega
  rw [h, List.length_replicate, Nat.min_eq_left (by omega), List.take_length, List.drop_replicate, Nat.add_sub_cancel_left]
  rfl
def ownAt {α : Type} (l : List α) (z : α) (j : Nat) : List (α × Bool) := (l.take j).map (·, true) ++ ((l.drop j).map (·, false) ++ [(z, true)])
theorem ownAt_length {α : Type} (l : List α) (z : α) (j : Nat) : (ownAt l z j).length = l.length + 1 := by
  unfold ownAt; simp only [List.length_append, List.length_map, List.length_take, List.length_drop, List.length_singleton]; omega
theorem ownAt_get {α : Type} {l : List α} {x : α} (z : α) (d : α × Bool) {j : Nat} (h : l[j]? = some x) : (ownAt l z j).getD ((j : Int)).toNat d = (x, false) := by
  obtain ⟨hl, rfl⟩ := List.getElem?_eq_some_iff.1 h
  unfold ownAt
  rw [Int.toNat_natCast, List.getD_eq_getElem?_getD, List.getElem?_append_right (by simp; omega), List.getElem?_append_left (by simp; omega)]
  simp [Nat.min_eq_left (Nat.le_of_lt hl), hl]
theorem ownAt_set {α : Type} {l : List α} {x : α} (z : α) {j : Nat} (h : l[j]? = some x) : (ownAt l z j).set ((j : Int)).toNat (x, true) = ownAt l z (j + 1) := by
  obtain ⟨hj, rfl⟩ := List.getElem?_eq_some_iff.1 h
  unfold ownAt
  have hl : ((l.take j).map (·, true)).length = j := by simp; omega
  rw [Int.toNat_natCast, List.set_append_right _ _ (by omega), hl, Nat.sub_self, List.drop_eq_getElem_cons hj]
  simp only [List.map_cons, List.cons_append, List.set_cons_zero]
  rw [List.take_succ_eq_append_getElem hj]
  simp only [List.map_append, List.map_cons, List.map_nil, List.append_assoc, List.cons_append, List.nil_append]
theorem ownAt_start {α : Type} (l : List α) (z : α) : l.map (·, false) ++ ((List.replicate ((l.length : Int) + 1).toNat z).drop l.length).map (·, true) = ownAt l z 0 := by
  have h : ((l.length : Int) + 1).toNat = l.length + 1 := by omega
  unfold ownAt
  rw [h, List.drop_replicate, Nat.add_sub_cancel_left]
  simp
theorem ownAt_end {α : Type} (l : List α) (z z' : α) : ((ownAt l z l.length).set l.length (z', true)).take l.length = l.map (·, true) := by
  unfold ownAt
  rw [List.take_set_of_le (Nat.le_refl _)]
  simp
theorem ownAt_last {α : Type} (l : List α) (z : α) (d : α × Bool) : (ownAt l z l.length).getD ((l.length : Int)).toNat d = (z, true) := by
  unfold ownAt
  rw [Int.toNat_natCast, List.getD_eq_getElem?_getD, List.getElem?_append_right (by simp)]
  simp
end Go.Proofs.YtapagakfckjhdaaW.PrintWords
