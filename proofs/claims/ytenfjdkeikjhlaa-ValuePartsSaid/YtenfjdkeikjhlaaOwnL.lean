/-
  own and spare of squintlaw07: a value in memory of its own, with a mark behind each list.
-/
import Derived.Test.YtenfjdkeikjhlaaSizeR
set_option autoImplicit false
set_option linter.unusedVariables false
set_option linter.unusedSimpArgs false
namespace Go.VI
section
variable {H H' : AH}
/-! trees of one's own: all their blocks from lo on and below hi -/
mutual
inductive PA (H : AH) : Nat → Nat → V → List AV → Prop where
  | mk (lo hi : Nat) (k n : Int) (l : List V) (s : AV) (h : PS H lo hi l s) : PA H lo hi (.mk k n l) [.int .i64 k, .int .i64 n, s]
inductive PS (H : AH) : Nat → Nat → List V → AV → Prop where
  | sl (lo hi b m : Nat) (l : List V) (cs : List AV) (z1 z2 : AV) (hlo : lo ≤ b) (hm : b < m) (hhi : m ≤ hi) (ha : H.at b = some (.row (cs ++ [.int .i64 (-99), z1, z2]) 24 false none)) (hb : l.length ≤ 4611686018427387904) (h : PL H m hi l cs) : PS H lo hi l (.sl (.mt b) 0 l.length (l.length + 1))
inductive PL (H : AH) : Nat → Nat → List V → List AV → Prop where
  | nil (lo hi : Nat) (hl : lo ≤ hi) : PL H lo hi [] []
  | cons (lo mid hi : Nat) (v : V) (l : List V) (a cs : List AV) (h : PA H lo mid v a) (k : PL H mid hi l cs) : PL H lo hi (v :: l) (a ++ cs)
end
mutual
theorem PA.le {lo hi : Nat} {v : V} {a : List AV} : PA H lo hi v a → lo ≤ hi
  | .mk _ _ _ _ _ _ h => PS.le h
theorem PS.le {lo hi : Nat} {l : List V} {s : AV} : PS H lo hi l s → lo ≤ hi
  | .sl _ _ _ _ _ _ _ _ hlo hm hhi _ _ _ => by omega
theorem PL.le {lo hi : Nat} {l : List V} {cs : List AV} : PL H lo hi l cs → lo ≤ hi
  | .nil _ _ hl => hl
  | .cons _ _ _ _ _ _ _ h k => Nat.le_trans (PA.le h) (PL.le k)
end
theorem PA.len {lo hi : Nat} {v : V} {a : List AV} (h : PA H lo hi v a) : a.length = 3 := by cases h; rfl
theorem PL.len : ∀ {l : List V} {lo hi : Nat} {cs : List AV}, PL H lo hi l cs → cs.length = l.length * 3
  | [], _, _, _, h => by cases h; rfl
  | v :: l, _, _, _, h => by cases h with | cons _ mid _ _ _ a cs h k => simp [h.len, PL.len k]; omega
mutual
theorem PA.same {lo hi : Nat} {v : V} {a : List AV} (S : Same H H' lo hi) : PA H lo hi v a → PA H' lo hi v a
  | .mk _ _ _ _ _ _ h => .mk _ _ _ _ _ _ (PS.same S h)
theorem PS.same {lo hi : Nat} {l : List V} {s : AV} (S : Same H H' lo hi) : PS H lo hi l s → PS H' lo hi l s
  | .sl _ _ b m _ cs z1 z2 hlo hm hhi ha hb h => .sl _ _ b m _ cs z1 z2 hlo hm hhi (S b _ hlo (by omega) ha) hb (PL.same (S.sub (by omega) (by omega)) h)
theorem PL.same {lo hi : Nat} {l : List V} {cs : List AV} (S : Same H H' lo hi) : PL H lo hi l cs → PL H' lo hi l cs
  | .nil _ _ hl => .nil _ _ hl
  | .cons _ mid _ _ _ _ _ h k => .cons _ mid _ _ _ _ _ (PA.same (S.sub (Nat.le_refl _) (PL.le k)) h) (PL.same (S.sub (PA.le h) (Nat.le_refl _)) k)
end
theorem PA.ext {lo hi : Nat} {v : V} {a : List AV} (h : PA H lo hi v a) (E : Ext H H') : PA H' lo hi v a := h.same fun c x _ _ e => E.keep c x e
theorem PS.ext {lo hi : Nat} {l : List V} {s : AV} (h : PS H lo hi l s) (E : Ext H H') : PS H' lo hi l s := h.same fun c x _ _ e => E.keep c x e
theorem PL.ext {lo hi : Nat} {l : List V} {cs : List AV} (h : PL H lo hi l cs) (E : Ext H H') : PL H' lo hi l cs := h.same fun c x _ _ e => E.keep c x e
mutual
theorem PA.va {lo hi : Nat} {v : V} {a : List AV} : PA H lo hi v a → VA H v a
  | .mk _ _ _ _ _ _ h => .mk _ _ _ _ (PS.va h)
theorem PS.va {lo hi : Nat} {l : List V} {s : AV} : PS H lo hi l s → SA H l s
  | .sl _ _ b m _ cs z1 z2 hlo hm hhi ha hb h => .sl _ (.mt b) 0 _ cs (by
      have hl := PL.len h
      rw [read_mt ha (by simp; omega), List.drop_zero, ← hl, List.take_left]) (by omega) hb (PL.va h)
theorem PL.va {lo hi : Nat} {l : List V} {cs : List AV} : PL H lo hi l cs → LA H l cs
  | .nil _ _ hl => .nil
  | .cons _ mid _ _ _ _ _ h k => .cons _ _ _ _ (PA.va h) (PL.va k)
end
theorem PA.wide {lo hi lo' hi' : Nat} {v : V} {a : List AV} (h : PA H lo hi v a) (h1 : lo' ≤ lo) (h2 : hi = hi') : PA H lo' hi' v a := by
  subst h2
  cases h with
  | mk _ _ k n l s h =>
    cases h with
    | sl _ _ b m _ cs z1 z2 hlo hm hhi ha hb h => exact .mk _ _ _ _ _ _ (.sl _ _ b m _ cs z1 z2 (by omega) hm hhi ha hb h)
theorem PL.wide {lo lo' hi : Nat} : ∀ {l : List V} {cs : List AV}, PL H lo hi l cs → lo' ≤ lo → PL H lo' hi l cs
  | [], _, h, h1 => by cases h with | nil _ _ hl => exact .nil _ _ (by omega)
  | v :: l, _, h, h1 => by cases h with | cons _ mid _ _ _ a cs h k => exact .cons _ mid _ _ _ _ _ (h.wide h1 rfl) k
theorem PL.append {lo mid hi : Nat} : ∀ {l r : List V} {cs ds : List AV}, PL H lo mid l cs → PL H mid hi r ds → PL H lo hi (l ++ r) (cs ++ ds)
  | [], r, _, ds, h, k => by
    cases h with | nil _ _ hl => exact k.wide hl
  | v :: l, r, _, ds, h, k => by
    cases h with | cons _ m _ _ _ a cs h1 h2 => rw [List.append_assoc]; exact .cons _ m _ _ _ _ _ h1 (PL.append h2 k)
theorem PL.one {lo hi : Nat} {v : V} {a : List AV} (h : PA H lo hi v a) : PL H lo hi [v] a := by
  have := PL.cons lo hi hi v [] a [] h (.nil _ _ (Nat.le_refl _)); rwa [List.append_nil] at this
theorem PL.get {lo hi : Nat} : ∀ {l : List V} {cs : List AV} {i : Nat} (hlt : i < l.length), PL H lo hi l cs →
    ∃ m1 m2 c1 a c2, cs = c1 ++ (a ++ c2) ∧ c1.length = i * 3 ∧ PA H m1 m2 l[i] a
  | v :: l, _, 0, hlt, h => by
    cases h with
    | cons _ mid _ _ _ a cs h k => exact ⟨lo, mid, [], a, cs, rfl, rfl, h⟩
  | v :: l, _, i + 1, hlt, h => by
    cases h with
    | cons _ mid _ _ _ a cs h k =>
      obtain ⟨m1, m2, c1, x, c2, rfl, hl, h2⟩ := PL.get (i := i) (by simpa using hlt) k
      exact ⟨m1, m2, a ++ c1, x, c2, by simp [List.append_assoc], by simp [h.len, hl]; omega, h2⟩
end
end Go.VI
namespace Go.Proofs.Ytenfjdkeikjhlaa.Vs
open Go.VI Go.Proofs
variable {orc : CallF}
set_option maxRecDepth 100000 in
set_option maxHeartbeats 4000000 in
theorem ownL_step (ho : NoOrcBut [9, 35, 36] orc) {H0 : AH} (W0 : Wf H0) (ka na : Int) (la : List V) (sa : AV) (hS : SA H0 la sa) (hN : V.cnts la ≤ 1000000) (ih : ∀ x ∈ la, ∀ (H : AH), Wf H → ∀ (a : List AV), VA H x a → Fin Try.prog orc 11 [.agg a] H (fun r H' => ∃ a', r = .agg a' ∧ PA H' H.n H'.n x a' ∧ Ext H H')) : Fin Try.prog orc 11 [.agg [.int .i64 (ka), .int .i64 (na), sa]] H0 (fun r H' => ∃ a', r = .agg a' ∧ PA H' H0.n H'.n (.mk ka na la) a' ∧ Ext H0 H') := by
  have E0 := Ext.refl W0
  have hbd := V.len_cnts la; have hl := hS.lenOf; have h1s := SA.one' hS
  refine fin_of Try.func11 rfl (by rw [Try.ntmps11]; simp) (ho _ rfl _ _) ?_
  rw [Try.ntmps11]
  refine w_seq ?_
  refine w_region ?_
  refine o_nw W0 (a_box (by simp only [ev, envOf, val_set, ofValue, ofCell, ↓reduceIte, Nat.reduceEqDiff] <;> rfl)) rfl rfl rfl (by simp) ?_; intro H1 n1 W1 X1 A1
  have A1 : H1.at H0.n = some (.row [.int .i64 (ka), .int .i64 (na), sa] 24 false none) := A1
  have E1 := E0.trans X1
  have g1 : H0.n ≤ H0.n := E0.n
  refine o_nw W1 (a_alloc Ty.zero24) rfl rfl rfl (by simp) ?_; intro H2 n2 W2 X2 A2
  have A2 : H2.at H1.n = some (.row [.int .i64 (0), .int .i64 (0), .nils] 24 false none) := A2
  have E2 := E1.trans X2
  have g2 : H0.n ≤ H1.n := E1.n
  have A1 := X2.keep _ _ A1
  refine o_nil ?_
  refine w_seq ?_
  refine w_region ?_
  refine o_rd (r_fieldAddr Ty.fo24_2 (by simp only [ev, envOf, val_set, ofValue, ofCell, ↓reduceIte, Nat.reduceEqDiff] <;> rfl)) rfl rfl ?_
  refine o_rd (r_load1 (v := sa) Ty.agg22 (by simp only [ev, envOf, val_set, ofValue, ofCell, ↓reduceIte, Nat.reduceEqDiff] <;> rfl) (read_mt A1 (Nat.le_of_ble_eq_true rfl))) rfl rfl ?_
  refine o_rd (r_len (n := la.length) Try.underlying22 (by simp only [ev, envOf, val_set, ofValue, ofCell, ↓reduceIte, Nat.reduceEqDiff] <;> rfl) hl) rfl rfl ?_
  refine o_rd (r_addE (a := ((la.length : Nat) : Int)) (b := 1) (c := ((la.length + 1 : Nat) : Int)) (by simp only [ev, envOf, val_set, ofValue, ofCell, ↓reduceIte, Nat.reduceEqDiff] <;> rfl) (by simp only [ev, envOf, val_set, ofValue, ofCell, ↓reduceIte, Nat.reduceEqDiff] <;> rfl) (by omega) (by omega) (by omega)) rfl rfl ?_
  refine o_nw W2 (a_makeSlice (m := la.length + 1) (p := la.length + 1) Try.underlying22 Ty.csz24 Ty.zero24 Ty.byt24 rfl (by simp only [ev, envOf, val_set, ofValue, ofCell, ↓reduceIte, Nat.reduceEqDiff] <;> rfl) (by simp only [ev, envOf, val_set, ofValue, ofCell, ↓reduceIte, Nat.reduceEqDiff] <;> rfl) (Nat.le_refl _) (by omega)) rfl rfl rfl (by simp) ?_; intro H3 n3 W3 X3 A3
  have E3 := E2.trans X3
  have A1 := X3.keep _ _ A1
  have A2 := X3.keep _ _ A2
  refine o_rd (r_assign (by simp only [ev, envOf, val_set, ofValue, ofCell, ↓reduceIte, Nat.reduceEqDiff] <;> rfl)) rfl rfl ?_
  refine o_nil ?_
  refine w_seq ?_
  refine w_seq ?_
  refine w_region ?_
  refine o_rd (r_assign (by simp only [ev, envOf, val_set, ofValue, ofCell, ↓reduceIte, Nat.reduceEqDiff] <;> rfl)) rfl rfl ?_
  refine o_nil ?_
  refine w_block ?_
  refine w_loop (fun m s => ∃ (e : Env) (H : AH) (i : Nat) (c1 : List AV) (c2 : List AV), s = ⟨e, H, []⟩ ∧ e.val 1 = .ptr (.mt (H0.n)) (0) ∧ e.val 2 = .ptr (.mt (H1.n)) (0) ∧ e.val 3 = .sl (.mt H2.n) (0) (la.length + 1) (la.length + 1) ∧ e.val 4 = .int .i64 (((i : Nat) : Int)) ∧ Wf H ∧ Ext H0 H ∧ H.at (H0.n) = some (.row [.int .i64 (ka), .int .i64 (na), sa] 24 false none) ∧ H.at (H1.n) = some (.row [.int .i64 (0), .int .i64 (0), .nils] 24 false none) ∧ H.at (H2.n) = some (.row (c1 ++ c2) 24 false none) ∧ (PL H (H2.n + 1) H.n (la.take i) c1) ∧ (c2.length = (la.length + 1 - i) * 3) ∧ (i + m = la.length)) (la.length) ⟨_, H3, 0, [], reps (la.length + 1) [.int .i64 0, .int .i64 0, .nils], rfl, (by simp only [val_set, ↓reduceIte, Nat.reduceEqDiff] <;> rfl), (by simp only [val_set, ↓reduceIte, Nat.reduceEqDiff] <;> rfl), (by simp only [val_set, ↓reduceIte, Nat.reduceEqDiff] <;> rfl), (by simp only [val_set, ↓reduceIte, Nat.reduceEqDiff] <;> rfl), W3, E3, A1, A2, A3, .nil _ _ (by omega), (by simp [reps]), by omega⟩ ?_
  intro m s hi
  obtain ⟨e, H4, i, c1, c2, rfl, v1, v2, v3, v4, W4, E4, A1, A2, A3, HO, hc2, him⟩ := hi
  have l4_0 := W4.lt A1
  have l4_1 := W4.lt A2
  have l4_2 := W4.lt A3
  refine w_seq ?_
  refine w_seq ?_
  refine w_region ?_
  refine o_rd (r_move (by simp only [ev, envOf, val_set, ofValue, ofCell, ↓reduceIte, Nat.reduceEqDiff, v1, v2, v3, v4] <;> rfl)) rfl rfl ?_
  refine o_rd (r_fieldAddr Ty.fo24_2 (by simp only [ev, envOf, val_set, ofValue, ofCell, ↓reduceIte, Nat.reduceEqDiff, v1, v2, v3, v4] <;> rfl)) rfl rfl ?_
  refine o_rd (r_load1 (v := sa) Ty.agg22 (by simp only [ev, envOf, val_set, ofValue, ofCell, ↓reduceIte, Nat.reduceEqDiff, v1, v2, v3, v4] <;> rfl) (read_mt A1 (Nat.le_of_ble_eq_true rfl))) rfl rfl ?_
  refine o_rd (r_len (n := la.length) Try.underlying22 (by simp only [ev, envOf, val_set, ofValue, ofCell, ↓reduceIte, Nat.reduceEqDiff, v1, v2, v3, v4] <;> rfl) hl) rfl rfl ?_
  refine o_rd (r_lt (a := ((i : Nat) : Int)) (b := ((la.length : Nat) : Int)) (by simp only [ev, envOf, val_set, ofValue, ofCell, ↓reduceIte, Nat.reduceEqDiff, v1, v2, v3, v4] <;> rfl) (by simp only [ev, envOf, val_set, ofValue, ofCell, ↓reduceIte, Nat.reduceEqDiff, v1, v2, v3, v4] <;> rfl)) rfl rfl ?_
  refine o_nil ?_
  refine w_cond (by simp only [ev, envOf, val_set, ofValue, ofCell, ↓reduceIte, Nat.reduceEqDiff, v1, v2, v3, v4] <;> rfl) (fun hc5 => ?_) (fun hc5 => ?_)
  · have hc5 := dec_t hc5
    refine w_skip ?_
    refine w_seq ?_
    refine w_block ?_
    refine w_region ?_
    have hi1 : i < la.length := by omega
    obtain ⟨ce, c3, rfl, hcl, hc3⟩ : ∃ x y, c2 = x ++ y ∧ x.length = 3 ∧ y.length = (la.length - i) * 3 := ⟨c2.take 3, c2.drop 3, (List.take_append_drop _ _).symm, by simp; omega, by simp; omega⟩
    obtain ⟨loc1, off1, cap1, ce1, rfl, hr1, hva⟩ := hS.get hi1
    have hc1 : c1.length = i * 3 := by have := HO.len; rw [List.length_take] at this; omega
    refine o_rd (r_move (by simp only [ev, envOf, val_set, ofValue, ofCell, ↓reduceIte, Nat.reduceEqDiff, v1, v2, v3, v4] <;> rfl)) rfl rfl ?_
    refine o_rd (r_move (by simp only [ev, envOf, val_set, ofValue, ofCell, ↓reduceIte, Nat.reduceEqDiff, v1, v2, v3, v4] <;> rfl)) rfl rfl ?_
    refine o_rd (r_fieldAddr Ty.fo24_2 (by simp only [ev, envOf, val_set, ofValue, ofCell, ↓reduceIte, Nat.reduceEqDiff, v1, v2, v3, v4] <;> rfl)) rfl rfl ?_
    refine o_rd (r_load1 (v := .sl loc1 (off1) (la.length) cap1) Ty.agg22 (by simp only [ev, envOf, val_set, ofValue, ofCell, ↓reduceIte, Nat.reduceEqDiff, v1, v2, v3, v4] <;> rfl) (read_mt A1 (Nat.le_of_ble_eq_true rfl))) rfl rfl ?_
    refine o_rd (r_move (by simp only [ev, envOf, val_set, ofValue, ofCell, ↓reduceIte, Nat.reduceEqDiff, v1, v2, v3, v4] <;> rfl)) rfl rfl ?_
    refine o_rd (r_indexAddr Try.underlying22 Ty.csz24 (by simp only [ev, envOf, val_set, ofValue, ofCell, ↓reduceIte, Nat.reduceEqDiff, v1, v2, v3, v4] <;> rfl) (by simp only [ev, envOf, val_set, ofValue, ofCell, ↓reduceIte, Nat.reduceEqDiff, v1, v2, v3, v4] <;> rfl) hi1) rfl rfl ?_
    refine o_rd (r_loadN Ty.agg24 Ty.csz24 (by simp only [ev, envOf, val_set, ofValue, ofCell, ↓reduceIte, Nat.reduceEqDiff, v1, v2, v3, v4] <;> rfl) (E4.read hr1)) rfl rfl ?_
    refine o_cl rfl rfl (by simp only [evs, ev, envOf, val_set, ofValue, ofCell, ↓reduceIte, Nat.reduceEqDiff, v1, v2, v3, v4] <;> rfl) rfl (ih _ (List.getElem_mem hi1) _ W4 _ (hva.ext E4)) rfl rfl ?_; rintro _ H6 ⟨cn, rfl, hon, X6⟩
    have W6 := X6.wf; have E6 := E4.trans X6
    have A1 := X6.keep _ _ A1
    have A2 := X6.keep _ _ A2
    have A3 := X6.keep _ _ A3
    have n6 := X6.n
    refine o_rd (r_indexAddr Try.underlying22 Ty.csz24 (by simp only [ev, envOf, val_set, ofValue, ofCell, ↓reduceIte, Nat.reduceEqDiff, v1, v2, v3, v4] <;> rfl) (by simp only [ev, envOf, val_set, ofValue, ofCell, ↓reduceIte, Nat.reduceEqDiff, v1, v2, v3, v4] <;> rfl) (by omega)) rfl rfl ?_
    refine o_st W6 (by simp only [ev, envOf, val_set, ofValue, ofCell, ↓reduceIte, Nat.reduceEqDiff, v1, v2, v3, v4] <;> rfl) (by simp only [ev, envOf, val_set, ofValue, ofCell, ↓reduceIte, Nat.reduceEqDiff, v1, v2, v3, v4] <;> rfl) A3 Ty.csz24 (by exact hon.len) (by rw [List.length_append, List.length_append]; omega) (by exact hon.va.ones) rfl rfl ?_; intro H7 n7 W7 A7 K7
    have A7 : H7.at (H2.n) = some (.row (c1 ++ cn ++ c3) 24 false none) := by have hq := A7; rw [splice_mid (by omega) (by rw [show (AV.agg cn).cells = cn from rfl, hon.len, hcl])] at hq; rw [List.append_assoc]; exact hq
    have E7 := Ext.put W0 E6 (by have := E6.n; omega) K7 n7 W7
    have A1 := K7.own A1 (by omega)
    have A2 := K7.own A2 (by omega)
    have HOn : PL H7 (H2.n + 1) H7.n (la.take i ++ [la[i]]) (c1 ++ cn) := PL.append (mid := H4.n) ((HO.ext X6).same (fun c x h1 h2 e => K7.own e (by omega))) (PL.one (by have := hon.same (H' := H7) (fun c x h1 h2 e => K7.own e (by omega)); rw [n7]; exact this))
    refine o_nil ?_
    refine w_region ?_
    refine o_rd (r_move (by simp only [ev, envOf, val_set, ofValue, ofCell, ↓reduceIte, Nat.reduceEqDiff, v1, v2, v3, v4] <;> rfl)) rfl rfl ?_
    refine o_rd (r_addE (a := ((i : Nat) : Int)) (b := 1) (c := ((i + 1 : Nat) : Int)) (by simp only [ev, envOf, val_set, ofValue, ofCell, ↓reduceIte, Nat.reduceEqDiff, v1, v2, v3, v4] <;> rfl) (by simp only [ev, envOf, val_set, ofValue, ofCell, ↓reduceIte, Nat.reduceEqDiff, v1, v2, v3, v4] <;> rfl) (by omega) (by omega) (by omega)) rfl rfl ?_
    refine o_rd (r_assign (by simp only [ev, envOf, val_set, ofValue, ofCell, ↓reduceIte, Nat.reduceEqDiff, v1, v2, v3, v4] <;> rfl)) rfl rfl ?_
    refine o_nil ?_
    exact ⟨m - 1, by omega, _, H7, i + 1, c1 ++ cn, c3, rfl, (by simp only [val_set, ↓reduceIte, Nat.reduceEqDiff, v1, v2, v3, v4] <;> rfl), (by simp only [val_set, ↓reduceIte, Nat.reduceEqDiff, v1, v2, v3, v4] <;> rfl), (by simp only [val_set, ↓reduceIte, Nat.reduceEqDiff, v1, v2, v3, v4] <;> rfl), (by simp only [val_set, ↓reduceIte, Nat.reduceEqDiff, v1, v2, v3, v4] <;> rfl), W7, E7, A1, A2, A7, by rw [List.take_succ_eq_append_getElem hi1]; exact HOn, (by omega), by omega⟩
  · have hc5 := dec_f hc5
    refine w_exit (blk_exit ?_)
    refine w_seq ?_
    refine w_region ?_
    obtain rfl : i = la.length := (by omega)
    rw [List.take_length] at HO
    have hc1 := HO.len
    obtain ⟨z0, z1, z2, rfl⟩ : ∃ z0 z1 z2, c2 = [z0, z1, z2] := by
      rcases c2 with _ | ⟨z0, _ | ⟨z1, _ | ⟨z2, _ | ⟨z3, r⟩⟩⟩⟩
      all_goals first | exact ⟨_, _, _, rfl⟩ | (exfalso; simp only [List.length_cons, List.length_nil] at hc2; omega)
    refine o_rd (r_move (by simp only [ev, envOf, val_set, ofValue, ofCell, ↓reduceIte, Nat.reduceEqDiff, v1, v2, v3, v4] <;> rfl)) rfl rfl ?_
    refine o_rd (r_fieldAddr Ty.fo24_2 (by simp only [ev, envOf, val_set, ofValue, ofCell, ↓reduceIte, Nat.reduceEqDiff, v1, v2, v3, v4] <;> rfl)) rfl rfl ?_
    refine o_rd (r_load1 (v := sa) Ty.agg22 (by simp only [ev, envOf, val_set, ofValue, ofCell, ↓reduceIte, Nat.reduceEqDiff, v1, v2, v3, v4] <;> rfl) (read_mt A1 (Nat.le_of_ble_eq_true rfl))) rfl rfl ?_
    refine o_rd (r_len (n := la.length) Try.underlying22 (by simp only [ev, envOf, val_set, ofValue, ofCell, ↓reduceIte, Nat.reduceEqDiff, v1, v2, v3, v4] <;> rfl) hl) rfl rfl ?_
    refine o_rd (r_indexAddr Try.underlying22 Ty.csz24 (by simp only [ev, envOf, val_set, ofValue, ofCell, ↓reduceIte, Nat.reduceEqDiff, v1, v2, v3, v4] <;> rfl) (by simp only [ev, envOf, val_set, ofValue, ofCell, ↓reduceIte, Nat.reduceEqDiff, v1, v2, v3, v4] <;> rfl) (by omega)) rfl rfl ?_
    refine o_rd (r_fieldAddr Ty.fo24_0 (by simp only [ev, envOf, val_set, ofValue, ofCell, ↓reduceIte, Nat.reduceEqDiff, v1, v2, v3, v4] <;> rfl)) rfl rfl ?_
    refine o_st W4 (by simp only [ev, envOf, val_set, ofValue, ofCell, ↓reduceIte, Nat.reduceEqDiff, v1, v2, v3, v4] <;> rfl) (by simp only [ev, envOf, val_set, ofValue, ofCell, ↓reduceIte, Nat.reduceEqDiff, v1, v2, v3, v4] <;> rfl) A3 Ty.csz3 rfl (by simp; omega) rfl rfl rfl ?_; intro H8 n8 W8 A8 K8
    have A8 : H8.at (H2.n) = some (.row (c1 ++ [.int .i64 (-99), z1, z2]) 24 false none) := by have hq := A8; rw [show c1 ++ [z0, z1, z2] = c1 ++ ([z0] ++ [z1, z2]) from rfl, splice_mid (a := [z0]) (a' := (AV.int .i64 (-99)).cells) (by omega) rfl] at hq; exact hq
    have E8 := Ext.put W0 E4 (by have := E4.n; omega) K8 n8 W8
    have A1 := K8.own A1 (by omega)
    have A2 := K8.own A2 (by omega)
    refine o_nil ?_
    refine w_seq ?_
    refine w_region ?_
    refine o_rd (r_move (by simp only [ev, envOf, val_set, ofValue, ofCell, ↓reduceIte, Nat.reduceEqDiff, v1, v2, v3, v4] <;> rfl)) rfl rfl ?_
    refine o_rd (r_fieldAddr Ty.fo24_2 (by simp only [ev, envOf, val_set, ofValue, ofCell, ↓reduceIte, Nat.reduceEqDiff, v1, v2, v3, v4] <;> rfl)) rfl rfl ?_
    refine o_rd (r_load1 (v := sa) Ty.agg22 (by simp only [ev, envOf, val_set, ofValue, ofCell, ↓reduceIte, Nat.reduceEqDiff, v1, v2, v3, v4] <;> rfl) (read_mt A1 (Nat.le_of_ble_eq_true rfl))) rfl rfl ?_
    refine o_rd (r_len (n := la.length) Try.underlying22 (by simp only [ev, envOf, val_set, ofValue, ofCell, ↓reduceIte, Nat.reduceEqDiff, v1, v2, v3, v4] <;> rfl) hl) rfl rfl ?_
    refine o_rd (r_sliceTo (j := la.length) Try.underlying22 Ty.csz24 (by simp only [ev, envOf, val_set, ofValue, ofCell, ↓reduceIte, Nat.reduceEqDiff, v1, v2, v3, v4] <;> rfl) (by simp only [ev, envOf, val_set, ofValue, ofCell, ↓reduceIte, Nat.reduceEqDiff, v1, v2, v3, v4] <;> rfl) (by omega) (by simp only [VI.cutOk, A8]; rfl)) rfl rfl ?_
    refine o_rd (r_fieldAddr Ty.fo24_2 (by simp only [ev, envOf, val_set, ofValue, ofCell, ↓reduceIte, Nat.reduceEqDiff, v1, v2, v3, v4] <;> rfl)) rfl rfl ?_
    refine o_st W8 (by simp only [ev, envOf, val_set, ofValue, ofCell, ↓reduceIte, Nat.reduceEqDiff, v1, v2, v3, v4] <;> rfl) (by simp only [ev, envOf, val_set, ofValue, ofCell, ↓reduceIte, Nat.reduceEqDiff, v1, v2, v3, v4] <;> rfl) A1 Ty.csz22 rfl (Nat.le_of_ble_eq_true rfl) (by rfl) rfl rfl ?_; intro H9 n9 W9 A9 K9
    have A9 : H9.at H0.n = some (.row [.int .i64 (ka), .int .i64 (na), .sl (.mt H2.n) (0) (la.length) (la.length + 1)] 24 false none) := A9
    have E9 := Ext.put W0 E8 (by have := E8.n; omega) K9 n9 W9
    have A2 := K9.own A2 (by omega)
    have A8 := K9.own A8 (by omega)
    refine o_nil ?_
    refine w_seq ?_
    refine w_region ?_
    refine o_rd (r_loadN (cs := [.int .i64 (ka), .int .i64 (na), .sl (.mt H2.n) (0) (la.length) (la.length + 1)]) Ty.agg24 Ty.csz24 (by simp only [ev, envOf, val_set, ofValue, ofCell, ↓reduceIte, Nat.reduceEqDiff, v1, v2, v3, v4] <;> rfl) (read_mt A9 (Nat.le_of_ble_eq_true rfl))) rfl rfl ?_
    refine o_st W9 (by simp only [ev, envOf, val_set, ofValue, ofCell, ↓reduceIte, Nat.reduceEqDiff, v1, v2, v3, v4] <;> rfl) (by simp only [ev, envOf, val_set, ofValue, ofCell, ↓reduceIte, Nat.reduceEqDiff, v1, v2, v3, v4] <;> rfl) A2 Ty.csz24 rfl (Nat.le_of_ble_eq_true rfl) (by rfl) rfl rfl ?_; intro H10 n10 W10 A10 K10
    have A10 : H10.at H1.n = some (.row [.int .i64 (ka), .int .i64 (na), .sl (.mt H2.n) (0) (la.length) (la.length + 1)] 24 false none) := A10
    have E10 := Ext.put W0 E9 (by have := E9.n; omega) K10 n10 W10
    have A9 := K10.own A9 (by omega)
    have A8 := K10.own A8 (by omega)
    refine o_nil ?_
    have hr11 : H10.read (.mt H1.n) 0 3 = some [.int .i64 (ka), .int .i64 (na), .sl (.mt H2.n) (0) (la.length) (la.length + 1)] := read_mt A10 (Nat.le_of_ble_eq_true rfl)
    refine w_ret ⟨.inr rfl, rfl, .agg [.int .i64 (ka), .int .i64 (na), .sl (.mt H2.n) (0) (la.length) (la.length + 1)], (show resultA Try.prog [.cell 2 24] _ = _ by simp only [resultA, resultsA, envOf, val_set, ↓reduceIte, Nat.reduceEqDiff, Option.map_some, v1, v2, v3, v4, hr11, Ty.agg24, Ty.csz24] <;> rfl), ?_⟩
    try dsimp only
    replace HO := HO.same (fun c x h1 h2 e => K8.own e (by omega))
    replace HO := HO.same (fun c x h1 h2 e => K9.own e (by omega))
    replace HO := HO.same (fun c x h1 h2 e => K10.own e (by omega))
    exact ⟨_, rfl, .mk _ _ _ _ _ _ (.sl _ _ H2.n (H2.n + 1) _ _ _ _ (by omega) (by omega) (by omega) A8 (by omega) (by rw [n10, n9, n8]; exact HO)), E10⟩
theorem ownL_fin (ho : NoOrcBut [9, 35, 36] orc) (x : V) : x.cnt ≤ 1000000 → ∀ (H : AH), Wf H → ∀ (a : List AV), VA H x a → Fin Try.prog orc 11 [.agg a] H (fun r H' => ∃ a', r = .agg a' ∧ PA H' H.n H'.n x a' ∧ Ext H H') := by
  refine V.ind (p := fun x => x.cnt ≤ 1000000 → ∀ (H : AH), Wf H → ∀ (a : List AV), VA H x a → Fin Try.prog orc 11 [.agg a] H (fun r H' => ∃ a', r = .agg a' ∧ PA H' H.n H'.n x a' ∧ Ext H H')) ?_ x
  intro k n l ih hc H W a ha
  simp only [V.cnt] at hc
  cases ha with | mk _ _ _ s h1 =>
  exact ownL_step ho W k n l s h1 (by omega) (fun x hx H' W' a' ha' => ih x hx (by have := V.cnt_mem hx; omega) H' W' a' ha')
set_option maxRecDepth 100000 in
set_option maxHeartbeats 4000000 in
theorem spare_step (ho : NoOrcBut [9, 35, 36] orc) {H0 : AH} (W0 : Wf H0) (ka na : Int) (la : List V) (bb lo hi m : Nat) (cs : List AV) (z1 z2 : AV) (ha : H0.at bb = some (.row (cs ++ [.int .i64 (-99), z1, z2]) 24 false none)) (hb : la.length ≤ 1000000) (hPL : PL H0 lo hi la cs) (ih : ∀ x ∈ la, ∀ (H : AH), Wf H → ∀ (lo hi : Nat) (a : List AV), PA H lo hi x a → Fin Try.prog orc 22 [.agg a] H (fun r H' => r = .bool true ∧ Ext H H')) : Fin Try.prog orc 22 [.agg [.int .i64 (ka), .int .i64 (na), .sl (.mt bb) (0) (la.length) (la.length + 1)]] H0 (fun r H' => r = .bool true ∧ Ext H0 H') := by
  have E0 := Ext.refl W0
  have hcl := hPL.len; have hrz : H0.read (.mt bb) (0 + la.length * 3 + 0) 1 = some [.int .i64 (-99)] := by rw [read_mt ha (by simp; omega), Nat.zero_add, Nat.add_zero, ← hcl, List.drop_left]; rfl
  refine fin_of Try.func22 rfl (by rw [Try.ntmps22]; simp) (ho _ rfl _ _) ?_
  rw [Try.ntmps22]
  refine w_seq ?_
  refine w_region ?_
  refine o_nw W0 (a_box (by simp only [ev, envOf, val_set, ofValue, ofCell, ↓reduceIte, Nat.reduceEqDiff] <;> rfl)) rfl rfl rfl (by simp) ?_; intro H1 n1 W1 X1 A1
  have A1 : H1.at H0.n = some (.row [.int .i64 (ka), .int .i64 (na), .sl (.mt bb) (0) (la.length) (la.length + 1)] 24 false none) := A1
  have E1 := E0.trans X1
  have g1 : H0.n ≤ H0.n := E0.n
  refine o_rd (r_assign (by simp only [ev, envOf, val_set, ofValue, ofCell, ↓reduceIte, Nat.reduceEqDiff] <;> rfl)) rfl rfl ?_
  refine o_nil ?_
  refine w_seq ?_
  refine w_region ?_
  refine o_rd (r_fieldAddr Ty.fo24_2 (by simp only [ev, envOf, val_set, ofValue, ofCell, ↓reduceIte, Nat.reduceEqDiff] <;> rfl)) rfl rfl ?_
  refine o_rd (r_load1 (v := .sl (.mt bb) (0) (la.length) (la.length + 1)) Ty.agg22 (by simp only [ev, envOf, val_set, ofValue, ofCell, ↓reduceIte, Nat.reduceEqDiff] <;> rfl) (read_mt A1 (Nat.le_of_ble_eq_true rfl))) rfl rfl ?_
  refine o_rd (r_fieldAddr Ty.fo24_2 (by simp only [ev, envOf, val_set, ofValue, ofCell, ↓reduceIte, Nat.reduceEqDiff] <;> rfl)) rfl rfl ?_
  refine o_rd (r_load1 (v := .sl (.mt bb) (0) (la.length) (la.length + 1)) Ty.agg22 (by simp only [ev, envOf, val_set, ofValue, ofCell, ↓reduceIte, Nat.reduceEqDiff] <;> rfl) (read_mt A1 (Nat.le_of_ble_eq_true rfl))) rfl rfl ?_
  refine o_rd (r_len (n := la.length) Try.underlying22 (by simp only [ev, envOf, val_set, ofValue, ofCell, ↓reduceIte, Nat.reduceEqDiff] <;> rfl) rfl) rfl rfl ?_
  refine o_rd (r_addE (a := ((la.length : Nat) : Int)) (b := 1) (c := ((la.length + 1 : Nat) : Int)) (by simp only [ev, envOf, val_set, ofValue, ofCell, ↓reduceIte, Nat.reduceEqDiff] <;> rfl) (by simp only [ev, envOf, val_set, ofValue, ofCell, ↓reduceIte, Nat.reduceEqDiff] <;> rfl) (by omega) (by omega) (by omega)) rfl rfl ?_
  refine o_rd (r_sliceTo (j := la.length + 1) Try.underlying22 Ty.csz24 (by simp only [ev, envOf, val_set, ofValue, ofCell, ↓reduceIte, Nat.reduceEqDiff] <;> rfl) (by simp only [ev, envOf, val_set, ofValue, ofCell, ↓reduceIte, Nat.reduceEqDiff] <;> rfl) (by omega) (by simp only [VI.cutOk, E1.keep _ _ ha]; rfl)) rfl rfl ?_
  refine o_rd (r_assign (by simp only [ev, envOf, val_set, ofValue, ofCell, ↓reduceIte, Nat.reduceEqDiff] <;> rfl)) rfl rfl ?_
  refine o_nil ?_
  refine w_seq ?_
  refine w_seq ?_
  refine w_region ?_
  refine o_rd (r_move (by simp only [ev, envOf, val_set, ofValue, ofCell, ↓reduceIte, Nat.reduceEqDiff] <;> rfl)) rfl rfl ?_
  refine o_rd (r_fieldAddr Ty.fo24_2 (by simp only [ev, envOf, val_set, ofValue, ofCell, ↓reduceIte, Nat.reduceEqDiff] <;> rfl)) rfl rfl ?_
  refine o_rd (r_load1 (v := .sl (.mt bb) (0) (la.length) (la.length + 1)) Ty.agg22 (by simp only [ev, envOf, val_set, ofValue, ofCell, ↓reduceIte, Nat.reduceEqDiff] <;> rfl) (read_mt A1 (Nat.le_of_ble_eq_true rfl))) rfl rfl ?_
  refine o_rd (r_len (n := la.length) Try.underlying22 (by simp only [ev, envOf, val_set, ofValue, ofCell, ↓reduceIte, Nat.reduceEqDiff] <;> rfl) rfl) rfl rfl ?_
  refine o_rd (r_indexAddr Try.underlying22 Ty.csz24 (by simp only [ev, envOf, val_set, ofValue, ofCell, ↓reduceIte, Nat.reduceEqDiff] <;> rfl) (by simp only [ev, envOf, val_set, ofValue, ofCell, ↓reduceIte, Nat.reduceEqDiff] <;> rfl) (by omega)) rfl rfl ?_
  refine o_rd (r_fieldAddr Ty.fo24_0 (by simp only [ev, envOf, val_set, ofValue, ofCell, ↓reduceIte, Nat.reduceEqDiff] <;> rfl)) rfl rfl ?_
  refine o_rd (r_load1 Ty.agg3 (by simp only [ev, envOf, val_set, ofValue, ofCell, ↓reduceIte, Nat.reduceEqDiff] <;> rfl) (E1.read hrz)) rfl rfl ?_
  refine o_rd (r_ne (a := (-99)) (b := -99) (by simp only [ev, envOf, val_set, ofValue, ofCell, ↓reduceIte, Nat.reduceEqDiff] <;> rfl) (by simp only [ev, envOf, val_set, ofValue, ofCell, ↓reduceIte, Nat.reduceEqDiff] <;> rfl)) rfl rfl ?_
  refine o_nil ?_
  refine w_cond (by simp only [ev, envOf, val_set, ofValue, ofCell, ↓reduceIte, Nat.reduceEqDiff] <;> rfl) (fun hc2 => ?_) (fun hc2 => ?_)
  · have hc2 := dec_t hc2
    refine w_seq ?_
    refine w_region ?_
    refine o_rd (r_assign (by simp only [ev, envOf, val_set, ofValue, ofCell, ↓reduceIte, Nat.reduceEqDiff] <;> rfl)) rfl rfl ?_
    refine o_nil ?_
    refine w_ret ⟨.inr rfl, rfl, .bool (false), (show resultA Try.prog [.tmp 2] _ = _ by simp only [resultA, resultsA, envOf, val_set, ↓reduceIte, Nat.reduceEqDiff, Option.map_some] <;> rfl), ?_⟩
    try dsimp only
    first | exact ⟨rfl, E1⟩ | (exfalso; omega)
  · have hc2 := dec_fn hc2
    refine w_skip ?_
    refine w_seq ?_
    refine w_seq ?_
    refine w_region ?_
    refine o_rd (r_assign (by simp only [ev, envOf, val_set, ofValue, ofCell, ↓reduceIte, Nat.reduceEqDiff] <;> rfl)) rfl rfl ?_
    refine o_nil ?_
    refine w_block ?_
    refine w_loop (fun m s => ∃ (e : Env) (H : AH) (i : Nat), s = ⟨e, H, []⟩ ∧ e.val 1 = .ptr (.mt (H0.n)) (0) ∧ e.val 2 = .bool (false) ∧ e.val 4 = .int .i64 (((i : Nat) : Int)) ∧ Wf H ∧ Ext H0 H ∧ H.at (H0.n) = some (.row [.int .i64 (ka), .int .i64 (na), .sl (.mt bb) (0) (la.length) (la.length + 1)] 24 false none) ∧ (i + m = la.length)) (la.length) ⟨_, H1, 0, rfl, (by simp only [val_set, ↓reduceIte, Nat.reduceEqDiff] <;> rfl), (by simp only [val_set, ↓reduceIte, Nat.reduceEqDiff] <;> rfl), (by simp only [val_set, ↓reduceIte, Nat.reduceEqDiff] <;> rfl), W1, E1, A1, by omega⟩ ?_
    intro m s hi
    obtain ⟨e, H3, i, rfl, v1, v2, v4, W3, E3, A1, him⟩ := hi
    have l3_0 := W3.lt A1
    refine w_seq ?_
    refine w_seq ?_
    refine w_region ?_
    refine o_rd (r_move (by simp only [ev, envOf, val_set, ofValue, ofCell, ↓reduceIte, Nat.reduceEqDiff, v1, v2, v4] <;> rfl)) rfl rfl ?_
    refine o_rd (r_fieldAddr Ty.fo24_2 (by simp only [ev, envOf, val_set, ofValue, ofCell, ↓reduceIte, Nat.reduceEqDiff, v1, v2, v4] <;> rfl)) rfl rfl ?_
    refine o_rd (r_load1 (v := .sl (.mt bb) (0) (la.length) (la.length + 1)) Ty.agg22 (by simp only [ev, envOf, val_set, ofValue, ofCell, ↓reduceIte, Nat.reduceEqDiff, v1, v2, v4] <;> rfl) (read_mt A1 (Nat.le_of_ble_eq_true rfl))) rfl rfl ?_
    refine o_rd (r_len (n := la.length) Try.underlying22 (by simp only [ev, envOf, val_set, ofValue, ofCell, ↓reduceIte, Nat.reduceEqDiff, v1, v2, v4] <;> rfl) rfl) rfl rfl ?_
    refine o_rd (r_lt (a := ((i : Nat) : Int)) (b := ((la.length : Nat) : Int)) (by simp only [ev, envOf, val_set, ofValue, ofCell, ↓reduceIte, Nat.reduceEqDiff, v1, v2, v4] <;> rfl) (by simp only [ev, envOf, val_set, ofValue, ofCell, ↓reduceIte, Nat.reduceEqDiff, v1, v2, v4] <;> rfl)) rfl rfl ?_
    refine o_nil ?_
    refine w_cond (by simp only [ev, envOf, val_set, ofValue, ofCell, ↓reduceIte, Nat.reduceEqDiff, v1, v2, v4] <;> rfl) (fun hc4 => ?_) (fun hc4 => ?_)
    · have hc4 := dec_t hc4
      refine w_skip ?_
      refine w_seq ?_
      refine w_block ?_
      refine w_seq ?_
      refine w_region ?_
      have hi1 : i < la.length := by omega
      obtain ⟨m1, m2, c1, ax, c2, rfl, hc1, hax⟩ := hPL.get hi1
      have hal := hax.len
      have hri : H0.read (.mt bb) (0 + i * 3) 3 = some ax := by rw [read_mt ha (by simp; omega), Nat.zero_add, ← hc1, List.append_assoc, List.drop_left, List.append_assoc, ← hal, List.take_left]
      refine o_rd (r_fieldAddr Ty.fo24_2 (by simp only [ev, envOf, val_set, ofValue, ofCell, ↓reduceIte, Nat.reduceEqDiff, v1, v2, v4] <;> rfl)) rfl rfl ?_
      refine o_rd (r_load1 (v := .sl (.mt bb) (0) (la.length) (la.length + 1)) Ty.agg22 (by simp only [ev, envOf, val_set, ofValue, ofCell, ↓reduceIte, Nat.reduceEqDiff, v1, v2, v4] <;> rfl) (read_mt A1 (Nat.le_of_ble_eq_true rfl))) rfl rfl ?_
      refine o_rd (r_move (by simp only [ev, envOf, val_set, ofValue, ofCell, ↓reduceIte, Nat.reduceEqDiff, v1, v2, v4] <;> rfl)) rfl rfl ?_
      refine o_rd (r_indexAddr Try.underlying22 Ty.csz24 (by simp only [ev, envOf, val_set, ofValue, ofCell, ↓reduceIte, Nat.reduceEqDiff, v1, v2, v4] <;> rfl) (by simp only [ev, envOf, val_set, ofValue, ofCell, ↓reduceIte, Nat.reduceEqDiff, v1, v2, v4] <;> rfl) hi1) rfl rfl ?_
      refine o_rd (r_loadN Ty.agg24 Ty.csz24 (by simp only [ev, envOf, val_set, ofValue, ofCell, ↓reduceIte, Nat.reduceEqDiff, v1, v2, v4] <;> rfl) (E3.read hri)) rfl rfl ?_
      refine o_cl rfl rfl (by simp only [evs, ev, envOf, val_set, ofValue, ofCell, ↓reduceIte, Nat.reduceEqDiff, v1, v2, v4] <;> rfl) rfl (ih _ (List.getElem_mem hi1) _ W3 _ _ _ (hax.ext E3)) rfl rfl ?_; rintro _ H5 ⟨rfl, X5⟩
      have W5 := X5.wf; have E5 := E3.trans X5
      have A1 := X5.keep _ _ A1
      have n5 := X5.n
      refine o_rd (r_assign (by simp only [ev, envOf, val_set, ofValue, ofCell, ↓reduceIte, Nat.reduceEqDiff, v1, v2, v4] <;> rfl)) rfl rfl ?_
      refine o_nil ?_
      refine w_seq ?_
      refine w_region ?_
      refine o_rd (r_move (by simp only [ev, envOf, val_set, ofValue, ofCell, ↓reduceIte, Nat.reduceEqDiff, v1, v2, v4] <;> rfl)) rfl rfl ?_
      refine o_rd (r_not (by simp only [ev, envOf, val_set, ofValue, ofCell, ↓reduceIte, Nat.reduceEqDiff, v1, v2, v4] <;> rfl)) rfl rfl ?_
      refine o_nil ?_
      refine w_cond (t := false) (by simp only [ev, envOf, val_set, ofValue, ofCell, ↓reduceIte, Nat.reduceEqDiff, v1, v2, v4] <;> rfl) (fun h => by cases h) (fun _ => ?_)
      refine w_skip ?_
      refine w_region ?_
      refine o_rd (r_move (by simp only [ev, envOf, val_set, ofValue, ofCell, ↓reduceIte, Nat.reduceEqDiff, v1, v2, v4] <;> rfl)) rfl rfl ?_
      refine o_rd (r_addE (a := ((i : Nat) : Int)) (b := 1) (c := ((i + 1 : Nat) : Int)) (by simp only [ev, envOf, val_set, ofValue, ofCell, ↓reduceIte, Nat.reduceEqDiff, v1, v2, v4] <;> rfl) (by simp only [ev, envOf, val_set, ofValue, ofCell, ↓reduceIte, Nat.reduceEqDiff, v1, v2, v4] <;> rfl) (by omega) (by omega) (by omega)) rfl rfl ?_
      refine o_rd (r_assign (by simp only [ev, envOf, val_set, ofValue, ofCell, ↓reduceIte, Nat.reduceEqDiff, v1, v2, v4] <;> rfl)) rfl rfl ?_
      refine o_nil ?_
      exact ⟨m - 1, by omega, _, H5, i + 1, rfl, (by simp only [val_set, ↓reduceIte, Nat.reduceEqDiff, v1, v2, v4] <;> rfl), (by simp only [val_set, ↓reduceIte, Nat.reduceEqDiff, v1, v2, v4] <;> rfl), (by simp only [val_set, ↓reduceIte, Nat.reduceEqDiff, v1, v2, v4] <;> rfl), W5, E5, A1, by omega⟩
    · have hc4 := dec_f hc4
      refine w_exit (blk_exit ?_)
      refine w_seq ?_
      refine w_region ?_
      refine o_rd (r_assign (by simp only [ev, envOf, val_set, ofValue, ofCell, ↓reduceIte, Nat.reduceEqDiff, v1, v2, v4] <;> rfl)) rfl rfl ?_
      refine o_nil ?_
      refine w_ret ⟨.inr rfl, rfl, .bool (true), (show resultA Try.prog [.tmp 2] _ = _ by simp only [resultA, resultsA, envOf, val_set, ↓reduceIte, Nat.reduceEqDiff, Option.map_some, v1, v2, v4] <;> rfl), ?_⟩
      try dsimp only
      first | exact ⟨rfl, E3⟩ | (exfalso; omega)
theorem spare_fin (ho : NoOrcBut [9, 35, 36] orc) (x : V) : x.cnt ≤ 1000000 → ∀ (H : AH), Wf H → ∀ (lo hi : Nat) (a : List AV), PA H lo hi x a → Fin Try.prog orc 22 [.agg a] H (fun r H' => r = .bool true ∧ Ext H H') := by
  refine V.ind (p := fun x => x.cnt ≤ 1000000 → ∀ (H : AH), Wf H → ∀ (lo hi : Nat) (a : List AV), PA H lo hi x a → Fin Try.prog orc 22 [.agg a] H (fun r H' => r = .bool true ∧ Ext H H')) ?_ x
  intro k n l ih hc H W lo hi a ha
  simp only [V.cnt] at hc
  have hl := V.len_cnts l
  cases ha with | mk _ _ _ _ _ s h1 =>
  cases h1 with | sl _ _ b m _ cs z1 z2 hlo hm hhi ha hb h =>
  exact spare_step ho W k n l b _ _ m cs z1 z2 ha (by omega) h (fun x hx H' W' lo' hi' a' ha' => ih x hx (by have := V.cnt_mem hx; omega) H' W' lo' hi' a' ha')
end Go.Proofs.Ytenfjdkeikjhlaa.Vs
