/-
  What the law of the parts leans on.
-/
import Derived.Test.YtenfjdkeikjhlaaSpoil
import Derived.Test.YtenfjdkeikjhlaaEqf
import Derived.Test.YtenfjdkeikjhlaaGreat
set_option autoImplicit false
set_option linter.unusedVariables false
set_option linter.unusedSimpArgs false
namespace Go.VI
section
variable {H H' : AH}
mutual
theorem PA.sameR {lo hi : Nat} {v : V} {a : List AV} (S : ∀ c x, lo ≤ c → c < hi → H.at c = some (.row x 24 false none) → H'.at c = some (.row x 24 false none)) : PA H lo hi v a → PA H' lo hi v a
  | .mk _ _ _ _ _ _ h => .mk _ _ _ _ _ _ (PS.sameR S h)
theorem PS.sameR {lo hi : Nat} {l : List V} {s : AV} (S : ∀ c x, lo ≤ c → c < hi → H.at c = some (.row x 24 false none) → H'.at c = some (.row x 24 false none)) : PS H lo hi l s → PS H' lo hi l s
  | .sl _ _ b m _ cs z1 z2 hlo hm hhi ha hb h => .sl _ _ b m _ cs z1 z2 hlo hm hhi (S b _ hlo (by omega) ha) hb (PL.sameR (fun c x h1 h2 => S c x (by omega) (by omega)) h)
theorem PL.sameR {lo hi : Nat} {l : List V} {cs : List AV} (S : ∀ c x, lo ≤ c → c < hi → H.at c = some (.row x 24 false none) → H'.at c = some (.row x 24 false none)) : PL H lo hi l cs → PL H' lo hi l cs
  | .nil _ _ hl => .nil _ _ hl
  | .cons _ mid _ _ _ _ _ h k => .cons _ mid _ _ _ _ _ (PA.sameR (fun c x h1 h2 => S c x h1 (by have := PL.le k; omega)) h) (PL.sameR (fun c x h1 h2 => S c x (by have := PA.le h; omega) h2) k)
end
theorem room_big {n by_ : Nat} (h : (n + n / 4 + 192) * by_ ≤ 281474976710656) (h2 : n ≤ 140737488355328) : room n by_ = true := by
  simp only [room, bleT h, bleT h2, Bool.and_self, Bool.or_true]
theorem o_apR {P : Program} {orc : CallF} {nt : Nat} {all l : List Oper} {K : St → Prop} {e : Env} {h : AH} {ds : List ADef} {d : Nat} {ty : TypeId} {pos : String} {aft : Array Edge} {g : Option (Nat × Bool)}
    {x y : Operand} {t u : TypeId} {dd : TypeDesc} {el : TypeId} {e' by_ n m : Nat} {z s v : AV} {cs new : List AV} {b : Nat} {fm : Option Nat} (W : Wf h)
    (ht : P.underlying t = some (.slice el)) (hu : P.underlying u = some dd) (hd : isIntT dd = false) (hc : csz P el = some (e' + 1)) (hb : byt P el = some by_) (hz : zeroOf P el = some z) (hzl : z.cells.length = e' + 1)
    (hx : ev e x = some s) (hy : ev e y = some v) (O : Own h el (e' + 1) s n cs b fm) (hsrc : srcCells h (e' + 1) v = some (m, new)) (hnl : new.length = m * (e' + 1)) (h1 : ones new = true) (hr : room (n + m) by_ = true)
    (hs : loudK P nt ⟨some d, .call ⟨.builtin .append, #[x, y], #[t, u]⟩, ty, pos, aft, g⟩ = true) (hw : wantedA all e ⟨some d, .call ⟨.builtin .append, #[x, y], #[t, u]⟩, ty, pos, aft, g⟩ = true)
    (k : ∀ s' H' b' fm', Own H' el (e' + 1) s' (n + m) (cs ++ new) b' fm' → Wf H' → h.n ≤ H'.n → H'.n ≤ h.n + 1 → (b' = b ∨ b' = h.n) → (fm' = none ∨ fm' = fm ∨ fm' = some h.n) → Keeps h H' b fm → WO P orc nt all l K ⟨e.set d s', H', ds⟩) :
    WO P orc nt all (⟨some d, .call ⟨.builtin .append, #[x, y], #[t, u]⟩, ty, pos, aft, g⟩ :: l) K ⟨e, h, ds⟩ := by
  obtain ⟨s', H', b', fm', a1, a2, a3, a4, a5, a6, a7, a8⟩ := append_own (by_ := by_) W O (Nat.le_add_left 1 e') hr hnl h1
  refine o_loud (o := ⟨some d, .call ⟨.builtin .append, #[x, y], #[t, u]⟩, ty, pos, aft, g⟩) hs hw ?_ (k s' H' b' fm' a2 a3 a4 a5 a6 a7 a8)
  have h3 : Nat.beq z.cells.length (e' + 1) = true := by rw [hzl]; exact Nat.beq_refl _
  simp only [loudOp, doCall, doBuiltin, doAppend, ht, hu, hx, hy, hd, appendBy, hc, hb, hz, h3, hsrc, h1, a1, valH]
theorem FS.k1 {n hb : Nat} {v : V} {a : List AV} (h : FS n H v a) (k : K3 hb hb none hb none H H') (hn : hb < n) : VA H' v a := h H' fun c x h1 h2 h3 h4 h5 => k.keep c x h3 (by omega) (by omega) (Classical.em _) (by omega) (Classical.em _)
theorem Own.k1 {el e n : Nat} {s : AV} {cs : List AV} {b hb : Nat} {fm : Option Nat} (O : Own H el e s n cs b fm) (k : K3 hb hb none hb none H H') (hn : b ≠ hb) : Own H' el e s n cs b fm := Own.keep O fun x hx _ => k.keep b x hx hn hn (Classical.em _) hn (Classical.em _)
theorem SI.srcC {l : List Int} {s : AV} (h : SI H l s) : srcCells H 1 s = some (l.length, l.map (AV.int .i64)) := by
  cases h with
  | nil => rfl
  | sl _ loc off cap hr hc hb => simp only [srcCells, Nat.mul_one, hr]
theorem ones_ints : ∀ zs : List Int, ones (zs.map (AV.int .i64)) = true
  | [] => rfl
  | z :: r => by simp only [List.map_cons, ones, AV.one, ones_ints r]
/-- the first so many of a list of numbers of one's own -/
theorem SI.first {l : List Int} {x : Int} {b b' o c : Nat} {f : Option Nat} (O : Own H 3 1 (.sl (.mt b') o (l.length + 1) c) (l.length + 1) (l.map (AV.int .i64) ++ [.int .i64 x]) b f) (hl : l.length ≤ 4611686018427387904) : SI H l (.sl (.mt b') o l.length c) := by
  obtain ⟨_, h1, h2⟩ := own_read O
  have := read_part h2 (o := 0) (m := l.length) (by omega)
  rw [List.drop_zero, List.take_append_of_le_length (by simp), List.take_of_length_le (by simp)] at this
  exact .sl l _ _ c this (by omega) hl
theorem own_last {l : List Int} {x : Int} {b b' o c : Nat} {f : Option Nat} (O : Own H 3 1 (.sl (.mt b') o (l.length + 1) c) (l.length + 1) (l.map (AV.int .i64) ++ [.int .i64 x]) b f) : H.read (.mt b') (o + l.length * 1) 1 = some [.int .i64 x] := by
  obtain ⟨_, h1, h2⟩ := own_read O
  have := read_part h2 (o := l.length) (m := 1) (by omega)
  rw [List.drop_left' (by simp)] at this
  rw [Nat.mul_one]; exact this
end
end Go.VI
namespace Go.Proofs.Ytenfjdkeikjhlaa.Vs
open Go.VI Go.Proofs
variable {orc : CallF}
def sumc : List (V × Nat) → Nat
  | [] => 0
  | p :: r => p.1.cnt + sumc r
theorem sumc_append : ∀ a b : List (V × Nat), sumc (a ++ b) = sumc a + sumc b
  | [], b => by simp [sumc]
  | x :: a, b => by simp only [List.cons_append, sumc, sumc_append a b]; omega
theorem sumc_rev (d : Nat) : ∀ l : List V, sumc (l.map fun y => (y, d)).reverse = V.cnts l
  | [] => rfl
  | x :: l => by simp only [List.map_cons, List.reverse_cons, sumc_append, sumc_rev d l, sumc, V.cnts]; omega
theorem gr_cnt : ∀ (f n : Nat) (st : List (V × Nat)), gr f n st = false → n + f = 65537 → n + sumc st ≤ 65536
  | 0, n, st, h, _ => by simp [gr] at h
  | f + 1, n, [], _, hn => by simp only [sumc]; omega
  | f + 1, n, (x, d) :: r, h, hn => by
    simp only [gr] at h
    split at h
    · cases h
    · split at h
      · cases h
      · have := gr_cnt f (n + 1) _ h (by omega)
        rw [sumc_append, sumc_rev] at this
        cases x with | mk k m l => simp only [sumc, V.cnt, V.l] at this ⊢; omega
theorem great_cnt {v : V} (h : gr 65537 0 [(v, 1)] = false) : v.cnt ≤ 65536 := by
  have := gr_cnt _ _ _ h rfl
  simp only [sumc] at this; omega
theorem pa_sa {H : AH} {lo hi : Nat} {k n : Int} {l : List V} {s : AV} (h : PA H lo hi (.mk k n l) [.int .i64 k, .int .i64 n, s]) : SA H l s := by
  cases h with | mk _ _ _ _ _ _ h => exact h.va
theorem si_own {H : AH} {l : List Int} {s : AV} {b : Nat} {f : Option Nat} (O : Own H 3 1 s l.length (l.map (AV.int .i64)) b f) (hl : l.length ≤ 4611686018427387904) : SI H l s := by
  obtain ⟨off, cap, rfl, hc, hr⟩ := O.read
  rw [Nat.mul_one] at hr
  exact .sl l _ off cap hr hc hl
theorem numbers_same (ho : NoOrcBut [9, 35, 36] orc) {H : AH} (W : Wf H) {l l' : List Int} {a b : AV} (ha : SI H l a) (hb : SI H l' b) (e : l = l') : VI.Fin Try.prog orc 19 [a, b] H (fun r H' => r = .bool true ∧ Ext H H') :=
  (numbers_fin ho W l l' a b ha hb).mono fun r H' h => ⟨h.1.trans (congrArg AV.bool (decide_eq_true e)), h.2⟩
theorem sameX (ho : NoOrcBut [9, 35, 36] orc) {H : AH} (W : Wf H) {x : V} {a b : List AV} (ha : VA H x a) (hb : VA H x b) : VI.Fin Try.prog orc 21 [.agg a, .agg b] H (fun r H' => r = .bool true ∧ Ext H H') :=
  (same_fin ho x H W x a b ha hb).mono fun r H' h => ⟨h.1.trans (congrArg AV.bool (eqV_t.2 rfl)), h.2⟩
theorem ownL_at (ho : NoOrcBut [9, 35, 36] orc) {H : AH} (W : Wf H) {k n : Int} {l : List V} {a : List AV} (hc : (V.mk k n l).cnt ≤ 1000000) (ha : VA H (.mk k n l) a) :
    VI.Fin Try.prog orc 11 [.agg a] H (fun r H' => ∃ s, r = .agg [.int .i64 k, .int .i64 n, s] ∧ PA H' H.n H'.n (.mk k n l) [.int .i64 k, .int .i64 n, s] ∧ Ext H H') :=
  (ownL_fin ho (.mk k n l) hc H W a ha).mono fun r H' ⟨a', h1, h2, h3⟩ => by
    cases h2 with | mk _ _ _ _ _ s h => exact ⟨s, h1, .mk _ _ _ _ _ _ h, h3⟩
theorem putV_none : ∀ {p : List Int} {v x : V}, partV v p = none → putV v p x = none
  | [], v, x, h => by cases h
  | i :: p, .mk k n l, x, h => by
    simp only [partV] at h
    simp only [putV]
    cases hs : stepV (.mk k n l) i with
    | none => rfl
    | some c => rw [hs] at h; simp only at h ⊢; rw [putV_none h]; rfl
theorem putV_cnt : ∀ {p : List Int} {v x w : V}, putV v p x = some w → w.cnt ≤ v.cnt + x.cnt
  | [], v, x, w, h => by
    have e : x = w := by cases v; injection h
    subst e; omega
  | i :: p, .mk k n l, x, w, h => by
    simp only [putV] at h
    cases hs : stepV (.mk k n l) i with
    | none => rw [hs] at h; cases h
    | some c =>
      rw [hs] at h
      obtain ⟨c', hc', rfl⟩ := Option.map_eq_some_iff.1 h
      have hi := putV_cnt hc'
      simp only [stepV] at hs
      by_cases hc : (k = 3 ∨ k = 4) ∧ 0 ≤ i ∧ i < (l.length : Int)
      · rw [if_pos hc] at hs
        obtain ⟨hj, hg⟩ := List.getElem?_eq_some_iff.1 hs
        have hset : ∀ {l : List V} {j : Nat} (hj : j < l.length) (x : V), V.cnts (l.set j x) + (l[j]).cnt = V.cnts l + x.cnt := by
          intro l
          induction l with
          | nil => intro j hj; simp at hj
          | cons y r ih =>
            intro j hj x
            cases j with
            | zero => simp only [List.set_cons_zero, V.cnts, List.getElem_cons_zero]; omega
            | succ j => simp only [List.set_cons_succ, V.cnts, List.getElem_cons_succ]; have := ih (by simpa using hj) x; omega
        have := hset hj c'
        rw [hg] at this
        simp only [V.cnt]; omega
      · rw [if_neg hc] at hs; cases hs
theorem pz_part_cnt {p : List Int} {v y : V} (h : pz (partV v p) = y) : y.cnt ≤ v.cnt := by
  subst h
  cases hp : partV v p with
  | none => simp only [pz, Option.getD, V.cnt, V.cnts]; exact V.cnt_pos v
  | some x => exact partV_cnt hp
theorem pz_put_cnt {p : List Int} {v x y : V} (h : pz (putV v p x) = y) : y.cnt ≤ v.cnt + x.cnt := by
  subst h
  cases hp : putV v p x with
  | none => simp only [pz, Option.getD, V.cnt, V.cnts]; have := V.cnt_pos v; omega
  | some w => exact putV_cnt hp
theorem part_z (ho : NoOrcBut [9, 35, 36] orc) {H : AH} (W : Wf H) {ka na : Int} {la : List V} {sa sp : AV} {ps : List Int} (hS : SA H la sa) (hP : SI H ps sp) (hN : (V.mk ka na la).cnt ≤ 1000000) {k n : Int} {l : List V} (hz : pz (partV (.mk ka na la) ps) = .mk k n l) :
    VI.Fin Try.prog orc 27 [.agg [.int .i64 ka, .int .i64 na, sa], sp] H (fun r H' => ∃ s bs, r = .tup [.agg [.int .i64 k, .int .i64 n, s], .bool (partV (.mk ka na la) ps).isSome] ∧ FSl H' 0 bs l s ∧ bs.Nodup ∧ (∀ c ∈ bs, H.n ≤ c ∧ c < H'.n) ∧ Ext H H') :=
  (part_fin ho W ka na la sa sp ps hS hP hN).mono fun r H' hh => by
    rcases hh with ⟨h1, h2, h3⟩ | ⟨x, cn, lo, h1, h2, h3, h4, h5⟩
    · rw [h1] at hz ⊢; simp only [pz, Option.getD] at hz; injection hz with q1 q2 q3; subst q1; subst q2; subst q3
      exact ⟨.nils, [], h2, .nil, List.nodup_nil, fun c hc => by simp at hc, h3⟩
    · have hc := partV_cnt h1
      rw [h1] at hz ⊢; simp only [pz, Option.getD] at hz; subst hz
      obtain ⟨bs, g1, g2, g3⟩ := h4.ft (by omega)
      obtain ⟨k', n', l', s, rfl, e, hs⟩ := g3.inv
      injection e with q1 q2 q3; subst q1; subst q2; subst q3
      exact ⟨s, bs, h2, hs, g1, fun c hc => by have := g2 c hc; omega, h5⟩
theorem with_z (ho : NoOrcBut [9, 35, 36] orc) {H : AH} (W : Wf H) {ka na kb nb : Int} {la lb : List V} {sa sb sp : AV} {ps : List Int} (hS : SA H la sa) (hB : SA H lb sb) (hP : SI H ps sp) (hN : (V.mk ka na la).cnt ≤ 1000000) (hM : (V.mk kb nb lb).cnt ≤ 1000000) {k n : Int} {l : List V} (hz : pz (putV (.mk ka na la) ps (.mk kb nb lb)) = .mk k n l) :
    VI.Fin Try.prog orc 28 [.agg [.int .i64 ka, .int .i64 na, sa], sp, .agg [.int .i64 kb, .int .i64 nb, sb]] H (fun r H' => ∃ s bs, r = .tup [.agg [.int .i64 k, .int .i64 n, s], .bool (putV (.mk ka na la) ps (.mk kb nb lb)).isSome] ∧ FSl H' 0 bs l s ∧ bs.Nodup ∧ (∀ c ∈ bs, H.n ≤ c ∧ c < H'.n) ∧ Ext H H') :=
  (with_fin ho W ka na kb nb la lb sa sb sp ps hS hB hP hN hM).mono fun r H' hh => by
    rcases hh with ⟨h1, h2, h3⟩ | ⟨w, a, bs, h1, h2, h3, h4, h5, h6⟩
    · rw [putV_none h1] at hz ⊢; simp only [pz, Option.getD] at hz; injection hz with q1 q2 q3; subst q1; subst q2; subst q3
      exact ⟨.nils, [], h2, .nil, List.nodup_nil, fun c hc => by simp at hc, h3⟩
    · rw [h1] at hz ⊢; simp only [pz, Option.getD] at hz; subst hz
      obtain ⟨k', n', l', s, rfl, e, hs⟩ := h5.inv
      injection e with q1 q2 q3; subst q1; subst q2; subst q3
      exact ⟨s, bs, h2, hs, h3, h4, h6⟩
theorem partR_z (ho : NoOrcBut [9, 35, 36] orc) {H : AH} (W : Wf H) {ka na : Int} {la : List V} {sa sp : AV} {ps : List Int} (hS : SA H la sa) (hP : SIc H ps sp) (hN : (V.mk ka na la).cnt ≤ 1000000) {k n : Int} {l : List V} (hz : pz (partV (.mk ka na la) ps) = .mk k n l) :
    VI.Fin Try.prog orc 29 [.agg [.int .i64 ka, .int .i64 na, sa], sp] H (fun r H' => ∃ s, r = .tup [.agg [.int .i64 k, .int .i64 n, s], .bool (partV (.mk ka na la) ps).isSome] ∧ FS H.n H' (.mk k n l) [.int .i64 k, .int .i64 n, s] ∧ Ext H H') :=
  (partR_fin ho (ps.length + 1) ps (Nat.lt_succ_self _) H W ka na la sa sp hS hP hN).mono fun r H' ⟨k', n', l', s, h1, h2, h3, h4⟩ => by
    rw [hz] at h2; injection h2 with q1 q2 q3; subst q1; subst q2; subst q3
    exact ⟨s, h1, h3, h4⟩
theorem withR_z (ho : NoOrcBut [9, 35, 36] orc) {H : AH} (W : Wf H) {ka na kb nb : Int} {la lb : List V} {sa sb sp : AV} {ps : List Int} (hS : SA H la sa) (hB : SA H lb sb) (hP : SIc H ps sp) (hN : (V.mk ka na la).cnt ≤ 1000000) (hM : (V.mk kb nb lb).cnt ≤ 1000000) {k n : Int} {l : List V} (hz : pz (putV (.mk ka na la) ps (.mk kb nb lb)) = .mk k n l) :
    VI.Fin Try.prog orc 30 [.agg [.int .i64 ka, .int .i64 na, sa], sp, .agg [.int .i64 kb, .int .i64 nb, sb]] H (fun r H' => ∃ s, r = .tup [.agg [.int .i64 k, .int .i64 n, s], .bool (putV (.mk ka na la) ps (.mk kb nb lb)).isSome] ∧ FS H.n H' (.mk k n l) [.int .i64 k, .int .i64 n, s] ∧ Ext H H') :=
  (withR_fin ho kb nb lb hM (ps.length + 1) ps (Nat.lt_succ_self _) H W ka na la sa sp sb hS hP hB hN).mono fun r H' ⟨k', n', l', s, h1, h2, h3, h4⟩ => by
    rw [hz] at h2; injection h2 with q1 q2 q3; subst q1; subst q2; subst q3
    exact ⟨s, h1, h3, h4⟩
end Go.Proofs.Ytenfjdkeikjhlaa.Vs
