/-
  value.Size: how many cells a value has, but at most so many and one.
-/
import Derived.Test.YtenfjdkeikjhlaaPart
set_option autoImplicit false
set_option linter.unusedVariables false
set_option linter.unusedSimpArgs false
namespace Go.Proofs.Ytenfjdkeikjhlaa.Vs
open Go.VI Go.Proofs
variable {orc : CallF}
def sizeS (c : Nat) (m : Int) : Int := if m < 0 then 0 else if (c : Int) ≤ m then c else m + 1
/-- lists on a stack -/
inductive SSA (H : AH) : List (List V) → List AV → Prop where
  | nil : SSA H [] []
  | cons (l : List V) (s : AV) (ls : List (List V)) (ss : List AV) (h : SA H l s) (k : SSA H ls ss) : SSA H (l :: ls) (s :: ss)
theorem SSA.len {H : AH} : ∀ {ls : List (List V)} {ss : List AV}, SSA H ls ss → ss.length = ls.length
  | [], _, h => by cases h; rfl
  | l :: ls, _, h => by cases h with | cons _ s _ ss h k => simp [k.len]
theorem SSA.snoc {H : AH} {l : List V} {s : AV} (h : SA H l s) : ∀ {ls : List (List V)} {ss : List AV}, SSA H ls ss → SSA H (ls ++ [l]) (ss ++ [s])
  | [], _, k => by cases k; exact .cons _ _ _ _ h .nil
  | x :: ls, _, k => by cases k with | cons _ y _ ss k1 k2 => exact .cons _ _ _ _ k1 (SSA.snoc h k2)
theorem SSA.split {H : AH} {l : List V} : ∀ {ls : List (List V)} {ss : List AV}, SSA H (ls ++ [l]) ss → ∃ s s1, ss = s1 ++ [s] ∧ SSA H ls s1 ∧ SA H l s
  | [], _, k => by cases k with | cons _ y _ ss k1 k2 => cases k2; exact ⟨y, [], rfl, .nil, k1⟩
  | x :: ls, _, k => by
    cases k with
    | cons _ y _ ss k1 k2 =>
      obtain ⟨s, s1, rfl, h1, h2⟩ := SSA.split k2
      exact ⟨s, y :: s1, rfl, .cons _ _ _ _ k1 h1, h2⟩
def tot : List (List V) → Nat
  | [] => 0
  | l :: r => V.cnts l + tot r
theorem tot_snoc : ∀ (ls : List (List V)) (l : List V), tot (ls ++ [l]) = tot ls + V.cnts l
  | [], l => by simp [tot]
  | x :: ls, l => by simp only [List.cons_append, tot, tot_snoc ls l]; omega
theorem len_tot : ∀ {ls : List (List V)}, (∀ l ∈ ls, l ≠ []) → ls.length ≤ tot ls
  | [], _ => Nat.le_refl _
  | l :: ls, h => by
    have := len_tot (ls := ls) (fun x hx => h x (List.mem_cons_of_mem _ hx))
    have h1 := V.len_cnts l
    have : 1 ≤ l.length := by cases l with | nil => exact absurd rfl (h [] List.mem_cons_self) | cons _ _ => simp
    simp only [List.length_cons, tot]; omega
theorem snoc_ne {ls : List (List V)} {x : List V} (h : ∀ l ∈ ls, l ≠ []) (hx : x ≠ []) : ∀ l ∈ ls ++ [x], l ≠ [] := fun l hl => by
  rcases List.mem_append.1 hl with h1 | h1
  · exact h l h1
  · rw [List.mem_singleton] at h1; subst h1; exact hx
theorem cnts_nil {l : List V} (h : l.length = 0) : V.cnts l = 0 := by rw [List.eq_nil_of_length_eq_zero h]; rfl
theorem one_get {α : Type} (a : List α) (x : α) : ((a ++ [x]).drop (a.length * 1)).take 1 = [x] := by rw [Nat.mul_one, List.drop_left]; rfl
theorem own_lenOf {H : AH} {el : TypeId} {e n : Nat} {s : AV} {cs : List AV} {b : Nat} {fm : Option Nat} (O : Own H el e s n cs b fm) : lenOf s = some n := by obtain ⟨_, _, rfl, _⟩ := O.read; rfl
set_option maxRecDepth 100000 in
set_option maxHeartbeats 4000000 in
theorem size_fin (ho : NoOrcBut [9, 35, 36] orc) {H0 : AH} (W0 : Wf H0) (ka na mo : Int) (la : List V) (sa : AV) (hS : SA H0 la sa) (hN0 : (V.mk ka na la).cnt ≤ 1000000) : Fin Try.prog orc 15 [.agg [.int .i64 (ka), .int .i64 (na), sa], .int .i64 (mo)] H0 (fun r H' => r = .int .i64 (sizeS (V.mk ka na la).cnt mo) ∧ Ext H0 H') := by
  have E0 := Ext.refl W0
  have hN1 := hN0; simp only [V.cnt] at hN1; have hV1 : (V.mk ka na la).cnt = 1 + V.cnts la := rfl
  refine fin_of Try.func15 rfl (by rw [Try.ntmps15]; simp) (ho _ rfl _ _) ?_
  rw [Try.ntmps15]
  refine w_seq ?_
  refine w_region ?_
  refine o_nw W0 (a_box (by simp only [ev, envOf, val_set, ofValue, ofCell, ↓reduceIte, Nat.reduceEqDiff] <;> rfl)) rfl rfl rfl (by simp) ?_; intro H1 n1 W1 X1 A1
  have A1 : H1.at H0.n = some (.row [.int .i64 (ka), .int .i64 (na), sa] 24 false none) := A1
  have E1 := E0.trans X1
  have g1 : H0.n ≤ H0.n := E0.n
  refine o_rd (r_assign (by simp only [ev, envOf, val_set, ofValue, ofCell, ↓reduceIte, Nat.reduceEqDiff] <;> rfl)) rfl rfl ?_
  refine o_nil ?_
  first | refine w_scope rfl ?_ | refine w_scope ?_
  refine w_seq ?_
  refine w_seq ?_
  refine w_region ?_
  refine o_rd (r_move (by simp only [ev, envOf, val_set, ofValue, ofCell, ↓reduceIte, Nat.reduceEqDiff] <;> rfl)) rfl rfl ?_
  refine o_rd (r_lt (a := mo) (b := 0) (by simp only [ev, envOf, val_set, ofValue, ofCell, ↓reduceIte, Nat.reduceEqDiff] <;> rfl) (by simp only [ev, envOf, val_set, ofValue, ofCell, ↓reduceIte, Nat.reduceEqDiff] <;> rfl)) rfl rfl ?_
  refine o_nil ?_
  refine w_cond (by simp only [ev, envOf, val_set, ofValue, ofCell, ↓reduceIte, Nat.reduceEqDiff] <;> rfl) (fun hc2 => ?_) (fun hc2 => ?_)
  · have hc2 := dec_t hc2
    refine w_seq ?_
    refine w_region ?_
    refine o_rd (r_assign (by simp only [ev, envOf, val_set, ofValue, ofCell, ↓reduceIte, Nat.reduceEqDiff] <;> rfl)) rfl rfl ?_
    refine o_nil ?_
    refine w_ret ⟨.inr rfl, rfl, .int .i64 (0), (show resultA Try.prog [.tmp 4] _ = _ by simp only [resultA, resultsA, envOf, val_set, ↓reduceIte, Nat.reduceEqDiff, Option.map_some] <;> rfl), ?_⟩
    try dsimp only
    refine ⟨congrArg (AV.int .i64) ?_, E1⟩; unfold sizeS; first | (rw [if_pos (by omega)]; done) | (rw [if_neg (by omega), if_neg (by omega)]; omega) | (have h0 : ls = [] := List.eq_nil_of_length_eq_zero (by omega); have ht : tot ls = 0 := (by rw [h0]; rfl); rw [if_neg (by omega), if_pos (by omega)]; omega)
  · have hc2 := dec_f hc2
    refine w_skip ?_
    refine w_seq ?_
    refine w_region ?_
    refine o_rd (r_assign (by simp only [ev, envOf, val_set, ofValue, ofCell, ↓reduceIte, Nat.reduceEqDiff] <;> rfl)) rfl rfl ?_
    refine o_nil ?_
    refine w_seq ?_
    refine w_region ?_
    refine o_rd (r_loadN (cs := [.int .i64 (ka), .int .i64 (na), sa]) Ty.agg24 Ty.csz24 (by simp only [ev, envOf, val_set, ofValue, ofCell, ↓reduceIte, Nat.reduceEqDiff] <;> rfl) (read_mt A1 (Nat.le_of_ble_eq_true rfl))) rfl rfl ?_
    refine o_nw W1 (a_build1 Try.underlying22 Ty.csz24 Ty.zero24 rfl (by simp only [ev, envOf, val_set, ofValue, ofCell, ↓reduceIte, Nat.reduceEqDiff] <;> rfl) rfl (by decide)) rfl rfl rfl (by simp) ?_; intro H3 n3 W3 X3 A3
    have E3 := E1.trans X3
    have A1 := X3.keep _ _ A1
    have hSv : SA H3 [.mk ka na la] (.sl (.mt (H1.n)) 0 1 1) := .sl [.mk ka na la] (.mt (H1.n)) 0 1 _ (read_mt A3 (Nat.le_of_ble_eq_true rfl)) (Nat.le_refl _) (by simp) (LA.one (.mk _ _ _ _ (hS.ext E3)))
    refine o_nw W3 (a_build1 Try.underlying50 Ty.csz22 Ty.zero22 rfl (by simp only [ev, envOf, val_set, ofValue, ofCell, ↓reduceIte, Nat.reduceEqDiff] <;> rfl) rfl (by decide)) rfl rfl rfl (by simp) ?_; intro H4 n4 W4 X4 A4
    have E4 := E3.trans X4
    have A1 := X4.keep _ _ A1
    have O0 : Own H4 22 1 (freshSl (H3.n) 1 1) 1 [.sl (.mt (H1.n)) (0) (1) 1] (H3.n) none := own_fresh (n := 1) (e := 1) A4 rfl
    have EB0 : Ext H3 H4 := X4
    refine o_rd (r_assign (by simp only [ev, envOf, val_set, ofValue, ofCell, ↓reduceIte, Nat.reduceEqDiff] <;> rfl)) rfl rfl ?_
    refine o_nil ?_
    refine w_seq ?_
    refine w_label ?_
    refine w_seq ?_
    refine w_block ?_
    refine w_loop (fun m s => ∃ (e : Env) (H : AH) (nn : Nat) (ls : List (List V)) (ss : List AV) (sl : AV) (bs : Nat) (fs : Option Nat), s = ⟨e, H, []⟩ ∧ e.val 1 = .int .i64 (mo) ∧ e.val 4 = .int .i64 (0) ∧ e.val 5 = .int .i64 (((nn : Nat) : Int)) ∧ e.val 6 = sl ∧ Wf H ∧ Ext H0 H ∧ (Ext H3 H) ∧ (Own H 22 1 sl ls.length ss bs fs) ∧ (New H3 bs fs) ∧ (SSA H3 ls ss) ∧ (∀ l ∈ ls, l ≠ []) ∧ (tot ls = m) ∧ (nn + tot ls = (V.mk ka na la).cnt) ∧ ((nn : Int) ≤ mo)) ((V.mk ka na la).cnt) ⟨_, H4, 0, [[.mk ka na la]], _, _, H3.n, none, rfl, (by simp only [val_set, ↓reduceIte, Nat.reduceEqDiff] <;> rfl), (by simp only [val_set, ↓reduceIte, Nat.reduceEqDiff] <;> rfl), (by simp only [val_set, ↓reduceIte, Nat.reduceEqDiff] <;> rfl), (by simp only [val_set, ↓reduceIte, Nat.reduceEqDiff] <;> rfl), W4, E4, EB0, O0, ⟨by omega, fun f h => by cases h⟩, .cons _ _ _ _ hSv .nil, (by simp), (by simp [tot, V.cnts]), (by simp [tot, V.cnts]), (by omega)⟩ ?_
    intro m s hi
    obtain ⟨e, H5, nn, ls, ss, sl, bs, fs, rfl, v1, v4, v5, v6, W5, E5, EB, O, hN, hSS, hne, hm, hcn, hmo⟩ := hi
    refine w_seq ?_
    refine w_seq ?_
    refine w_region ?_
    refine o_rd (r_move (by simp only [ev, envOf, val_set, ofValue, ofCell, ↓reduceIte, Nat.reduceEqDiff, v1, v4, v5, v6] <;> rfl)) rfl rfl ?_
    refine o_rd (r_len (n := ls.length) Try.underlying50 (by simp only [ev, envOf, val_set, ofValue, ofCell, ↓reduceIte, Nat.reduceEqDiff, v1, v4, v5, v6] <;> rfl) (own_lenOf O)) rfl rfl ?_
    refine o_rd (r_gt (a := ((ls.length : Nat) : Int)) (b := 0) (by simp only [ev, envOf, val_set, ofValue, ofCell, ↓reduceIte, Nat.reduceEqDiff, v1, v4, v5, v6] <;> rfl) (by simp only [ev, envOf, val_set, ofValue, ofCell, ↓reduceIte, Nat.reduceEqDiff, v1, v4, v5, v6] <;> rfl)) rfl rfl ?_
    refine o_nil ?_
    refine w_cond (by simp only [ev, envOf, val_set, ofValue, ofCell, ↓reduceIte, Nat.reduceEqDiff, v1, v4, v5, v6] <;> rfl) (fun hc6 => ?_) (fun hc6 => ?_)
    · have hc6 := dec_t hc6
      refine w_skip ?_
      refine w_block ?_
      refine w_seq ?_
      refine w_region ?_
      obtain ⟨lx, ls, rfl⟩ : ∃ lx r, ls = r ++ [lx] := ⟨ls.getLast (by intro h; subst h; simp at *), ls.dropLast, (List.dropLast_concat_getLast _).symm⟩
      rw [List.length_append, List.length_singleton] at O
      obtain ⟨sx, s1, rfl, hSS1, hX⟩ := hSS.split
      obtain ⟨os, cs, rfl, hcs, RS⟩ := O.read
      have hs1 := hSS1.len
      have hne1 : ∀ l ∈ ls, l ≠ [] := fun l hl => hne l (List.mem_append_left _ hl)
      have hlx : lx ≠ [] := hne lx (by simp)
      rw [tot_snoc] at hm hcn
      have hlt := len_tot hne1
      have hlc := V.len_cnts lx
      have rS : H5.read (.mt bs) (os + ls.length * 1) 1 = some [sx] := by rw [read_part RS (by omega), ← hs1, one_get]
      refine o_rd (r_move (by simp only [ev, envOf, val_set, ofValue, ofCell, ↓reduceIte, Nat.reduceEqDiff, v1, v4, v5, v6] <;> rfl)) rfl rfl ?_
      refine o_rd (r_move (by simp only [ev, envOf, val_set, ofValue, ofCell, ↓reduceIte, Nat.reduceEqDiff, v1, v4, v5, v6] <;> rfl)) rfl rfl ?_
      refine o_rd (r_len (n := ls.length + 1) Try.underlying50 (by simp only [ev, envOf, val_set, ofValue, ofCell, ↓reduceIte, Nat.reduceEqDiff, v1, v4, v5, v6] <;> rfl) rfl) rfl rfl ?_
      refine o_rd (r_subE (a := ((ls.length + 1 : Nat) : Int)) (b := 1) (c := ((ls.length : Nat) : Int)) (by simp only [ev, envOf, val_set, ofValue, ofCell, ↓reduceIte, Nat.reduceEqDiff, v1, v4, v5, v6] <;> rfl) (by simp only [ev, envOf, val_set, ofValue, ofCell, ↓reduceIte, Nat.reduceEqDiff, v1, v4, v5, v6] <;> rfl) (by omega) (by omega) (by omega)) rfl rfl ?_
      refine o_rd (r_indexAddr Try.underlying50 Ty.csz22 (by simp only [ev, envOf, val_set, ofValue, ofCell, ↓reduceIte, Nat.reduceEqDiff, v1, v4, v5, v6] <;> rfl) (by simp only [ev, envOf, val_set, ofValue, ofCell, ↓reduceIte, Nat.reduceEqDiff, v1, v4, v5, v6] <;> rfl) (by omega)) rfl rfl ?_
      refine o_rd (r_load1 Ty.agg22 (by simp only [ev, envOf, val_set, ofValue, ofCell, ↓reduceIte, Nat.reduceEqDiff, v1, v4, v5, v6] <;> rfl) rS) rfl rfl ?_
      refine o_rd (r_assign (by simp only [ev, envOf, val_set, ofValue, ofCell, ↓reduceIte, Nat.reduceEqDiff, v1, v4, v5, v6] <;> rfl)) rfl rfl ?_
      refine o_nil ?_
      refine w_seq ?_
      refine w_region ?_
      refine o_rd (r_move (by simp only [ev, envOf, val_set, ofValue, ofCell, ↓reduceIte, Nat.reduceEqDiff, v1, v4, v5, v6] <;> rfl)) rfl rfl ?_
      refine o_rd (r_move (by simp only [ev, envOf, val_set, ofValue, ofCell, ↓reduceIte, Nat.reduceEqDiff, v1, v4, v5, v6] <;> rfl)) rfl rfl ?_
      refine o_rd (r_len (n := ls.length + 1) Try.underlying50 (by simp only [ev, envOf, val_set, ofValue, ofCell, ↓reduceIte, Nat.reduceEqDiff, v1, v4, v5, v6] <;> rfl) rfl) rfl rfl ?_
      refine o_rd (r_subE (a := ((ls.length + 1 : Nat) : Int)) (b := 1) (c := ((ls.length : Nat) : Int)) (by simp only [ev, envOf, val_set, ofValue, ofCell, ↓reduceIte, Nat.reduceEqDiff, v1, v4, v5, v6] <;> rfl) (by simp only [ev, envOf, val_set, ofValue, ofCell, ↓reduceIte, Nat.reduceEqDiff, v1, v4, v5, v6] <;> rfl) (by omega) (by omega) (by omega)) rfl rfl ?_
      refine o_rd (r_sliceTo (j := ls.length) Try.underlying50 Ty.csz22 (by simp only [ev, envOf, val_set, ofValue, ofCell, ↓reduceIte, Nat.reduceEqDiff, v1, v4, v5, v6] <;> rfl) (by simp only [ev, envOf, val_set, ofValue, ofCell, ↓reduceIte, Nat.reduceEqDiff, v1, v4, v5, v6] <;> rfl) (by omega) O.cutOk) rfl rfl ?_
      have O1 := own_cut O (Nat.le_succ ls.length)
      rw [show (s1 ++ [sx]).take (ls.length * 1) = s1 by rw [Nat.mul_one, ← hs1, List.take_left]] at O1
      refine o_rd (r_assign (by simp only [ev, envOf, val_set, ofValue, ofCell, ↓reduceIte, Nat.reduceEqDiff, v1, v4, v5, v6] <;> rfl)) rfl rfl ?_
      refine o_nil ?_
      refine w_seq ?_
      refine w_region ?_
      refine o_rd (r_move (by simp only [ev, envOf, val_set, ofValue, ofCell, ↓reduceIte, Nat.reduceEqDiff, v1, v4, v5, v6] <;> rfl)) rfl rfl ?_
      refine o_rd (r_len (n := lx.length) Try.underlying22 (by simp only [ev, envOf, val_set, ofValue, ofCell, ↓reduceIte, Nat.reduceEqDiff, v1, v4, v5, v6] <;> rfl) hX.lenOf) rfl rfl ?_
      refine o_rd (r_move (by simp only [ev, envOf, val_set, ofValue, ofCell, ↓reduceIte, Nat.reduceEqDiff, v1, v4, v5, v6] <;> rfl)) rfl rfl ?_
      refine o_nil ?_
      refine w_block ?_
      refine w_loop (fun m s => ∃ (e : Env) (H : AH) (i : Nat) (n2 : Nat) (ls2 : List (List V)) (ss2 : List AV) (sl2 : AV) (bs2 : Nat) (fs2 : Option Nat), s = ⟨e, H, []⟩ ∧ e.val 1 = .int .i64 (mo) ∧ e.val 4 = .int .i64 (0) ∧ e.val 5 = .int .i64 (((n2 : Nat) : Int)) ∧ e.val 6 = sl2 ∧ e.val 29 = sx ∧ e.val 30 = .int .i64 (((lx.length : Nat) : Int)) ∧ e.val 31 = .int .i64 (((i : Nat) : Int)) ∧ Wf H ∧ Ext H0 H ∧ (Ext H3 H) ∧ (Own H 22 1 sl2 ls2.length ss2 bs2 fs2) ∧ (New H3 bs2 fs2) ∧ (SSA H3 ls2 ss2) ∧ (∀ l ∈ ls2, l ≠ []) ∧ (i + m = lx.length) ∧ (n2 + tot ls2 + V.cnts (lx.drop i) = (V.mk ka na la).cnt) ∧ ((n2 : Int) ≤ mo) ∧ (nn + i = n2)) (lx.length) ⟨_, H5, 0, nn, ls, s1, _, bs, fs, rfl, (by simp only [val_set, ↓reduceIte, Nat.reduceEqDiff, v1, v4, v5, v6] <;> rfl), (by simp only [val_set, ↓reduceIte, Nat.reduceEqDiff, v1, v4, v5, v6] <;> rfl), (by simp only [val_set, ↓reduceIte, Nat.reduceEqDiff, v1, v4, v5, v6] <;> rfl), (by simp only [val_set, ↓reduceIte, Nat.reduceEqDiff, v1, v4, v5, v6] <;> rfl), (by simp only [val_set, ↓reduceIte, Nat.reduceEqDiff, v1, v4, v5, v6] <;> rfl), (by simp only [val_set, ↓reduceIte, Nat.reduceEqDiff, v1, v4, v5, v6] <;> rfl), (by simp only [val_set, ↓reduceIte, Nat.reduceEqDiff, v1, v4, v5, v6] <;> rfl), W5, E5, EB, O1, hN, hSS1, hne1, (by omega), (by rw [List.drop_zero]; omega), hmo, rfl⟩ ?_
      intro m s hi
      obtain ⟨e, H7, i, n2, ls2, ss2, sl2, bs2, fs2, rfl, v1, v4, v5, v6, v29, v30, v31, W7, E7, EB2, O2, hN2, hSS2, hne2, hi, hcn2, hmo2, hnn⟩ := hi
      refine w_seq ?_
      refine w_region ?_
      refine o_rd (r_lt (a := ((i : Nat) : Int)) (b := ((lx.length : Nat) : Int)) (by simp only [ev, envOf, val_set, ofValue, ofCell, ↓reduceIte, Nat.reduceEqDiff, v1, v4, v5, v6, v29, v30, v31] <;> rfl) (by simp only [ev, envOf, val_set, ofValue, ofCell, ↓reduceIte, Nat.reduceEqDiff, v1, v4, v5, v6, v29, v30, v31] <;> rfl)) rfl rfl ?_
      refine o_nil ?_
      refine w_seq ?_
      refine w_cond (by simp only [ev, envOf, val_set, ofValue, ofCell, ↓reduceIte, Nat.reduceEqDiff, v1, v4, v5, v6, v29, v30, v31] <;> rfl) (fun hc8 => ?_) (fun hc8 => ?_)
      · have hc8 := dec_t hc8
        refine w_skip ?_
        refine w_seq ?_
        refine w_block ?_
        refine w_seq ?_
        refine w_region ?_
        have hi1 : i < lx.length := by omega
        obtain ⟨lox, ofx, cpx, cex, rfl, hrx, hvx⟩ := hX.get hi1
        obtain ⟨xk, xn, xl, xs, rfl, hxe, hxs⟩ := hvx.inv
        rw [List.drop_eq_getElem_cons hi1] at hcn2; simp only [V.cnts] at hcn2; rw [hxe] at hcn2; simp only [V.cnt] at hcn2
        have hlt2 := len_tot hne2
        have hlcx := V.len_cnts xl
        refine o_rd (r_indexAddr Try.underlying22 Ty.csz24 (by simp only [ev, envOf, val_set, ofValue, ofCell, ↓reduceIte, Nat.reduceEqDiff, v1, v4, v5, v6, v29, v30, v31] <;> rfl) (by simp only [ev, envOf, val_set, ofValue, ofCell, ↓reduceIte, Nat.reduceEqDiff, v1, v4, v5, v6, v29, v30, v31] <;> rfl) hi1) rfl rfl ?_
        refine o_rd (r_loadN Ty.agg24 Ty.csz24 (by simp only [ev, envOf, val_set, ofValue, ofCell, ↓reduceIte, Nat.reduceEqDiff, v1, v4, v5, v6, v29, v30, v31] <;> rfl) ((EB2).read hrx)) rfl rfl ?_
        refine o_nw W7 (a_alloc Ty.zero24) rfl rfl rfl (by simp) ?_; intro H9 n9 W9 X9 A9
        have A9 : H9.at H7.n = some (.row [.int .i64 (0), .int .i64 (0), .nils] 24 false none) := A9
        have E9 := E7.trans X9
        have g9 : H0.n ≤ H7.n := E7.n
        refine o_st W9 (by simp only [ev, envOf, val_set, ofValue, ofCell, ↓reduceIte, Nat.reduceEqDiff, v1, v4, v5, v6, v29, v30, v31] <;> rfl) (by simp only [ev, envOf, val_set, ofValue, ofCell, ↓reduceIte, Nat.reduceEqDiff, v1, v4, v5, v6, v29, v30, v31] <;> rfl) A9 Ty.csz24 rfl (Nat.le_of_ble_eq_true rfl) (by exact ones3 (SA.one' hxs)) rfl rfl ?_; intro H10 n10 W10 A10 K10
        have A10 : H10.at H7.n = some (.row [.int .i64 (xk), .int .i64 (xn), xs] 24 false none) := A10
        have E10 := Ext.put W0 E9 (by have := E9.n; omega) K10 n10 W10
        refine o_nil ?_
        refine w_seq ?_
        refine w_seq ?_
        refine w_region ?_
        replace O2 := (O2.ext X9).keep (H' := H10) (fun x hx hf => K10.own hx (by have := O2.lt W7; omega))
        replace EB2 := Ext.put W3 (EB2.trans X9) (by have := EB2.n; omega) K10 n10 W10
        refine o_rd (r_move (by simp only [ev, envOf, val_set, ofValue, ofCell, ↓reduceIte, Nat.reduceEqDiff, v1, v4, v5, v6, v29, v30, v31] <;> rfl)) rfl rfl ?_
        refine o_rd (r_move (by simp only [ev, envOf, val_set, ofValue, ofCell, ↓reduceIte, Nat.reduceEqDiff, v1, v4, v5, v6, v29, v30, v31] <;> rfl)) rfl rfl ?_
        refine o_rd (r_eq (a := ((n2 : Nat) : Int)) (b := mo) (by simp only [ev, envOf, val_set, ofValue, ofCell, ↓reduceIte, Nat.reduceEqDiff, v1, v4, v5, v6, v29, v30, v31] <;> rfl) (by simp only [ev, envOf, val_set, ofValue, ofCell, ↓reduceIte, Nat.reduceEqDiff, v1, v4, v5, v6, v29, v30, v31] <;> rfl)) rfl rfl ?_
        refine o_nil ?_
        refine w_cond (by simp only [ev, envOf, val_set, ofValue, ofCell, ↓reduceIte, Nat.reduceEqDiff, v1, v4, v5, v6, v29, v30, v31] <;> rfl) (fun hc11 => ?_) (fun hc11 => ?_)
        · have hc11 := dec_t hc11
          refine w_seq ?_
          refine w_region ?_
          refine o_rd (r_move (by simp only [ev, envOf, val_set, ofValue, ofCell, ↓reduceIte, Nat.reduceEqDiff, v1, v4, v5, v6, v29, v30, v31] <;> rfl)) rfl rfl ?_
          refine o_rd (r_addE (a := ((n2 : Nat) : Int)) (b := 1) (c := ((n2 + 1 : Nat) : Int)) (by simp only [ev, envOf, val_set, ofValue, ofCell, ↓reduceIte, Nat.reduceEqDiff, v1, v4, v5, v6, v29, v30, v31] <;> rfl) (by simp only [ev, envOf, val_set, ofValue, ofCell, ↓reduceIte, Nat.reduceEqDiff, v1, v4, v5, v6, v29, v30, v31] <;> rfl) (by omega) (by omega) (by omega)) rfl rfl ?_
          refine o_rd (r_assign (by simp only [ev, envOf, val_set, ofValue, ofCell, ↓reduceIte, Nat.reduceEqDiff, v1, v4, v5, v6, v29, v30, v31] <;> rfl)) rfl rfl ?_
          refine o_nil ?_
          refine w_exit (blk_pass (by decide) (blk_pass (by decide) (blk_pass (by decide) (blk_exit ?_))))
          refine w_seq ?_
          refine w_region ?_
          refine o_rd (r_move (by simp only [ev, envOf, val_set, ofValue, ofCell, ↓reduceIte, Nat.reduceEqDiff, v1, v4, v5, v6, v29, v30, v31] <;> rfl)) rfl rfl ?_
          refine o_rd (r_assign (by simp only [ev, envOf, val_set, ofValue, ofCell, ↓reduceIte, Nat.reduceEqDiff, v1, v4, v5, v6, v29, v30, v31] <;> rfl)) rfl rfl ?_
          refine o_nil ?_
          refine w_ret ⟨.inr rfl, rfl, .int .i64 (((n2 + 1 : Nat) : Int)), (show resultA Try.prog [.tmp 4] _ = _ by simp only [resultA, resultsA, envOf, val_set, ↓reduceIte, Nat.reduceEqDiff, Option.map_some, v1, v4, v5, v6, v29, v30, v31] <;> rfl), ?_⟩
          try dsimp only
          refine ⟨congrArg (AV.int .i64) ?_, E10⟩; unfold sizeS; first | (rw [if_pos (by omega)]; done) | (rw [if_neg (by omega), if_neg (by omega)]; omega) | (have h0 : ls = [] := List.eq_nil_of_length_eq_zero (by omega); have ht : tot ls = 0 := (by rw [h0]; rfl); rw [if_neg (by omega), if_pos (by omega)]; omega)
        · have hc11 := dec_f hc11
          refine w_skip ?_
          refine w_seq ?_
          refine w_region ?_
          refine o_rd (r_move (by simp only [ev, envOf, val_set, ofValue, ofCell, ↓reduceIte, Nat.reduceEqDiff, v1, v4, v5, v6, v29, v30, v31] <;> rfl)) rfl rfl ?_
          refine o_rd (r_addE (a := ((n2 : Nat) : Int)) (b := 1) (c := ((n2 + 1 : Nat) : Int)) (by simp only [ev, envOf, val_set, ofValue, ofCell, ↓reduceIte, Nat.reduceEqDiff, v1, v4, v5, v6, v29, v30, v31] <;> rfl) (by simp only [ev, envOf, val_set, ofValue, ofCell, ↓reduceIte, Nat.reduceEqDiff, v1, v4, v5, v6, v29, v30, v31] <;> rfl) (by omega) (by omega) (by omega)) rfl rfl ?_
          refine o_rd (r_assign (by simp only [ev, envOf, val_set, ofValue, ofCell, ↓reduceIte, Nat.reduceEqDiff, v1, v4, v5, v6, v29, v30, v31] <;> rfl)) rfl rfl ?_
          refine o_nil ?_
          refine w_seq ?_
          refine w_region ?_
          refine o_rd (r_fieldAddr Ty.fo24_2 (by simp only [ev, envOf, val_set, ofValue, ofCell, ↓reduceIte, Nat.reduceEqDiff, v1, v4, v5, v6, v29, v30, v31] <;> rfl)) rfl rfl ?_
          refine o_rd (r_load1 (v := xs) Ty.agg22 (by simp only [ev, envOf, val_set, ofValue, ofCell, ↓reduceIte, Nat.reduceEqDiff, v1, v4, v5, v6, v29, v30, v31] <;> rfl) (read_mt A10 (Nat.le_of_ble_eq_true rfl))) rfl rfl ?_
          refine o_rd (r_len (n := xl.length) Try.underlying22 (by simp only [ev, envOf, val_set, ofValue, ofCell, ↓reduceIte, Nat.reduceEqDiff, v1, v4, v5, v6, v29, v30, v31] <;> rfl) hxs.lenOf) rfl rfl ?_
          refine o_rd (r_gt (a := ((xl.length : Nat) : Int)) (b := 0) (by simp only [ev, envOf, val_set, ofValue, ofCell, ↓reduceIte, Nat.reduceEqDiff, v1, v4, v5, v6, v29, v30, v31] <;> rfl) (by simp only [ev, envOf, val_set, ofValue, ofCell, ↓reduceIte, Nat.reduceEqDiff, v1, v4, v5, v6, v29, v30, v31] <;> rfl)) rfl rfl ?_
          refine o_nil ?_
          refine w_cond (by simp only [ev, envOf, val_set, ofValue, ofCell, ↓reduceIte, Nat.reduceEqDiff, v1, v4, v5, v6, v29, v30, v31] <;> rfl) (fun hc12 => ?_) (fun hc12 => ?_)
          · have hc12 := dec_t hc12
            refine w_region ?_
            refine o_rd (r_move (by simp only [ev, envOf, val_set, ofValue, ofCell, ↓reduceIte, Nat.reduceEqDiff, v1, v4, v5, v6, v29, v30, v31] <;> rfl)) rfl rfl ?_
            refine o_rd (r_fieldAddr Ty.fo24_2 (by simp only [ev, envOf, val_set, ofValue, ofCell, ↓reduceIte, Nat.reduceEqDiff, v1, v4, v5, v6, v29, v30, v31] <;> rfl)) rfl rfl ?_
            refine o_rd (r_load1 (v := xs) Ty.agg22 (by simp only [ev, envOf, val_set, ofValue, ofCell, ↓reduceIte, Nat.reduceEqDiff, v1, v4, v5, v6, v29, v30, v31] <;> rfl) (read_mt A10 (Nat.le_of_ble_eq_true rfl))) rfl rfl ?_
            refine o_nw W10 (a_build1 Try.underlying50 Ty.csz22 Ty.zero22 rfl (by simp only [ev, envOf, val_set, ofValue, ofCell, ↓reduceIte, Nat.reduceEqDiff, v1, v4, v5, v6, v29, v30, v31] <;> rfl) (by cases hxs <;> rfl) (by decide)) rfl rfl rfl (by simp) ?_; intro H13 n13 W13 X13 A13
            have E13 := E10.trans X13
            have A10 := X13.keep _ _ A10
            have hxc : xs.cells = [xs] := by cases hxs <;> rfl
            rw [hxc] at A13
            replace O2 := O2.ext X13; replace EB2 := EB2.trans X13
            refine o_ap W13 Try.underlying50 Try.underlying50 rfl Ty.csz22 Ty.byt22 Ty.zero22 rfl (by simp only [ev, envOf, val_set, ofValue, ofCell, ↓reduceIte, Nat.reduceEqDiff, v1, v4, v5, v6, v29, v30, v31] <;> rfl) (by simp only [ev, envOf, val_set, ofValue, ofCell, ↓reduceIte, Nat.reduceEqDiff, v1, v4, v5, v6, v29, v30, v31] <;> rfl) O2 (src_fresh (n := 1) A13 rfl) rfl (by simp only [ones]; rw [SA.one' hxs]) (by omega) rfl rfl ?_; intro sl3 H14 bs3 fs3 O3 W14 l14 u14 p14 q14 K14
            have E14 := Ext.keeps W0 E13 (by exact ⟨by have := hN2.1; have := E3.n; omega, fun f hf => by have := hN2.2 f hf; have := E3.n; omega⟩) K14 l14 W14
            have EB3 := Ext.keeps W3 EB2 hN2 K14 l14 W14
            have hN3 := hN2.step (by have := EB2.n; omega) p14 q14
            refine o_rd (r_assign (by simp only [ev, envOf, val_set, ofValue, ofCell, ↓reduceIte, Nat.reduceEqDiff, v1, v4, v5, v6, v29, v30, v31] <;> rfl)) rfl rfl ?_
            refine o_nil ?_
            refine w_region ?_
            refine o_rd (r_addE (a := ((i : Nat) : Int)) (b := 1) (c := ((i + 1 : Nat) : Int)) (by simp only [ev, envOf, val_set, ofValue, ofCell, ↓reduceIte, Nat.reduceEqDiff, v1, v4, v5, v6, v29, v30, v31] <;> rfl) (by simp only [ev, envOf, val_set, ofValue, ofCell, ↓reduceIte, Nat.reduceEqDiff, v1, v4, v5, v6, v29, v30, v31] <;> rfl) (by omega) (by omega) (by omega)) rfl rfl ?_
            refine o_rd (r_move (by simp only [ev, envOf, val_set, ofValue, ofCell, ↓reduceIte, Nat.reduceEqDiff, v1, v4, v5, v6, v29, v30, v31] <;> rfl)) rfl rfl ?_
            refine o_nil ?_
            exact ⟨m - 1, (by omega), _, H14, i + 1, n2 + 1, ls2 ++ [xl], ss2 ++ [xs], sl3, bs3, fs3, rfl, (by simp only [val_set, ↓reduceIte, Nat.reduceEqDiff, v1, v4, v5, v6, v29, v30, v31] <;> rfl), (by simp only [val_set, ↓reduceIte, Nat.reduceEqDiff, v1, v4, v5, v6, v29, v30, v31] <;> rfl), (by simp only [val_set, ↓reduceIte, Nat.reduceEqDiff, v1, v4, v5, v6, v29, v30, v31] <;> rfl), (by simp only [val_set, ↓reduceIte, Nat.reduceEqDiff, v1, v4, v5, v6, v29, v30, v31] <;> rfl), (by simp only [val_set, ↓reduceIte, Nat.reduceEqDiff, v1, v4, v5, v6, v29, v30, v31] <;> rfl), (by simp only [val_set, ↓reduceIte, Nat.reduceEqDiff, v1, v4, v5, v6, v29, v30, v31] <;> rfl), (by simp only [val_set, ↓reduceIte, Nat.reduceEqDiff, v1, v4, v5, v6, v29, v30, v31] <;> rfl), W14, E14, EB3, (by rw [List.length_append, List.length_singleton]; exact O3), hN3, (hSS2.snoc hxs), (snoc_ne hne2 (by intro h0; have h1 : xl.length = 0 := (by rw [h0]; rfl); omega)), (by omega), (by rw [tot_snoc]; omega), (by omega), (by omega)⟩
          · have hc12 := dec_f hc12
            refine w_skip ?_
            refine w_region ?_
            refine o_rd (r_addE (a := ((i : Nat) : Int)) (b := 1) (c := ((i + 1 : Nat) : Int)) (by simp only [ev, envOf, val_set, ofValue, ofCell, ↓reduceIte, Nat.reduceEqDiff, v1, v4, v5, v6, v29, v30, v31] <;> rfl) (by simp only [ev, envOf, val_set, ofValue, ofCell, ↓reduceIte, Nat.reduceEqDiff, v1, v4, v5, v6, v29, v30, v31] <;> rfl) (by omega) (by omega) (by omega)) rfl rfl ?_
            refine o_rd (r_move (by simp only [ev, envOf, val_set, ofValue, ofCell, ↓reduceIte, Nat.reduceEqDiff, v1, v4, v5, v6, v29, v30, v31] <;> rfl)) rfl rfl ?_
            refine o_nil ?_
            have hx0 : V.cnts xl = 0 := cnts_nil (by omega)
            exact ⟨m - 1, (by omega), _, H10, i + 1, n2 + 1, ls2, ss2, sl2, bs2, fs2, rfl, (by simp only [val_set, ↓reduceIte, Nat.reduceEqDiff, v1, v4, v5, v6, v29, v30, v31] <;> rfl), (by simp only [val_set, ↓reduceIte, Nat.reduceEqDiff, v1, v4, v5, v6, v29, v30, v31] <;> rfl), (by simp only [val_set, ↓reduceIte, Nat.reduceEqDiff, v1, v4, v5, v6, v29, v30, v31] <;> rfl), (by simp only [val_set, ↓reduceIte, Nat.reduceEqDiff, v1, v4, v5, v6, v29, v30, v31] <;> rfl), (by simp only [val_set, ↓reduceIte, Nat.reduceEqDiff, v1, v4, v5, v6, v29, v30, v31] <;> rfl), (by simp only [val_set, ↓reduceIte, Nat.reduceEqDiff, v1, v4, v5, v6, v29, v30, v31] <;> rfl), (by simp only [val_set, ↓reduceIte, Nat.reduceEqDiff, v1, v4, v5, v6, v29, v30, v31] <;> rfl), W10, E10, EB2, O2, hN2, hSS2, hne2, (by omega), (by omega), (by omega), (by omega)⟩
      · have hc8 := dec_f hc8
        first | refine w_exit (blk_exit ?_) | refine w_exit (show (2 = 2 → _) ∧ (2 ≠ 2 → _) from ⟨fun _ => ?_, fun c => absurd rfl c⟩)
        have hcnE := hcn2; rw [List.drop_of_length_le (by omega)] at hcnE; simp only [V.cnts] at hcnE
        have hlp := List.length_pos_iff.2 hlx
        exact ⟨tot ls2, (by omega), _, H7, n2, ls2, ss2, sl2, bs2, fs2, rfl, (by simp only [val_set, ↓reduceIte, Nat.reduceEqDiff, v1, v4, v5, v6, v29, v30, v31] <;> rfl), (by simp only [val_set, ↓reduceIte, Nat.reduceEqDiff, v1, v4, v5, v6, v29, v30, v31] <;> rfl), (by simp only [val_set, ↓reduceIte, Nat.reduceEqDiff, v1, v4, v5, v6, v29, v30, v31] <;> rfl), (by simp only [val_set, ↓reduceIte, Nat.reduceEqDiff, v1, v4, v5, v6, v29, v30, v31] <;> rfl), W7, E7, EB2, O2, hN2, hSS2, hne2, rfl, (by omega), hmo2⟩
    · have hc6 := dec_f hc6
      first | refine w_exit (blk_exit ?_) | refine w_exit (show (0 = 0 → _) ∧ (0 ≠ 0 → _) from ⟨fun _ => ?_, fun c => absurd rfl c⟩)
      refine w_seq ?_
      refine w_region ?_
      refine o_rd (r_move (by simp only [ev, envOf, val_set, ofValue, ofCell, ↓reduceIte, Nat.reduceEqDiff, v1, v4, v5, v6] <;> rfl)) rfl rfl ?_
      refine o_rd (r_assign (by simp only [ev, envOf, val_set, ofValue, ofCell, ↓reduceIte, Nat.reduceEqDiff, v1, v4, v5, v6] <;> rfl)) rfl rfl ?_
      refine o_nil ?_
      refine w_ret ⟨.inr rfl, rfl, .int .i64 (((nn : Nat) : Int)), (show resultA Try.prog [.tmp 4] _ = _ by simp only [resultA, resultsA, envOf, val_set, ↓reduceIte, Nat.reduceEqDiff, Option.map_some, v1, v4, v5, v6] <;> rfl), ?_⟩
      try dsimp only
      refine ⟨congrArg (AV.int .i64) ?_, E5⟩; unfold sizeS; first | (rw [if_pos (by omega)]; done) | (rw [if_neg (by omega), if_neg (by omega)]; omega) | (have h0 : ls = [] := List.eq_nil_of_length_eq_zero (by omega); have ht : tot ls = 0 := (by rw [h0]; rfl); rw [if_neg (by omega), if_pos (by omega)]; omega)
end Go.Proofs.Ytenfjdkeikjhlaa.Vs
