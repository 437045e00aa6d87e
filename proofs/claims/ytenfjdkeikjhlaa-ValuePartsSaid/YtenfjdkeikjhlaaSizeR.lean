/-
  Size of the reference.
-/
import Derived.Test.YtenfjdkeikjhlaaSize
set_option autoImplicit false
set_option linter.unusedVariables false
set_option linter.unusedSimpArgs false
namespace Go.Proofs.Ytenfjdkeikjhlaa.Vs
open Go.VI Go.Proofs
variable {orc : CallF}
theorem cnts_nil_of {l : List V} (h : l.length = 0) : V.cnts l = 0 := by rw [List.eq_nil_of_length_eq_zero h]; rfl
set_option maxRecDepth 100000 in
set_option maxHeartbeats 4000000 in
theorem sizeR_fin (ho : NoOrcBut [9, 35, 36] orc) {H0 : AH} (W0 : Wf H0) (ka na mo : Int) (la : List V) (sa : AV) (hS : SA H0 la sa) (hN0 : (V.mk ka na la).cnt ≤ 1000000) : Fin Try.prog orc 16 [.agg [.int .i64 (ka), .int .i64 (na), sa], .int .i64 (mo)] H0 (fun r H' => r = .int .i64 (sizeS (V.mk ka na la).cnt mo) ∧ Ext H0 H') := by
  have E0 := Ext.refl W0
  have hN1 := hN0; simp only [V.cnt] at hN1; have hV1 : (V.mk ka na la).cnt = 1 + V.cnts la := rfl; have hbi := la.length
  refine fin_of Try.func16 rfl (by rw [Try.ntmps16]; simp) (ho _ rfl _ _) ?_
  rw [Try.ntmps16]
  refine w_seq ?_
  refine w_region ?_
  refine o_nw W0 (a_box (by simp only [ev, envOf, val_set, ofValue, ofCell, ↓reduceIte, Nat.reduceEqDiff] <;> rfl)) rfl rfl rfl (by simp) ?_; intro H1 n1 W1 X1 A1
  have A1 : H1.at H0.n = some (.row [.int .i64 (ka), .int .i64 (na), sa] 24 false none) := A1
  have E1 := E0.trans X1
  have g1 : H0.n ≤ H0.n := E0.n
  refine o_rd (r_assign (by simp only [ev, envOf, val_set, ofValue, ofCell, ↓reduceIte, Nat.reduceEqDiff] <;> rfl)) rfl rfl ?_
  refine o_nil ?_
  refine w_seq ?_
  refine w_seq ?_
  refine w_region ?_
  refine o_rd (r_move (by simp only [ev, envOf, val_set, ofValue, ofCell, ↓reduceIte, Nat.reduceEqDiff] <;> rfl)) rfl rfl ?_
  refine o_rd (r_lt (a := mo) (b := 0) (by simp only [ev, envOf, val_set, ofValue, ofCell, ↓reduceIte, Nat.reduceEqDiff] <;> rfl) (by simp only [ev, envOf, val_set, ofValue, ofCell, ↓reduceIte, Nat.reduceEqDiff] <;> rfl)) rfl rfl ?_
  refine o_nil ?_
  refine w_cond (by simp only [ev, envOf, val_set, ofValue, ofCell, ↓reduceIte, Nat.reduceEqDiff] <;> rfl) (fun hc2 => ?_) (fun hc2 => ?_)
  · have hc2 := dec_t hc2
    refine w_seq ?_
    refine w_region ?_
    refine o_rd (r_assign (by simp only [ev, envOf, val_set, ofValue, ofCell, ↓reduceIte, Nat.reduceEqDiff] <;> rfl)) rfl rfl ?_
    refine o_nil ?_
    refine w_ret ⟨.inr rfl, rfl, .int .i64 (0), (show resultA Try.prog [.tmp 4] _ = _ by simp only [resultA, resultsA, envOf, val_set, ↓reduceIte, Nat.reduceEqDiff, Option.map_some] <;> rfl), ?_⟩
    try dsimp only
    refine ⟨congrArg (AV.int .i64) ?_, E1⟩; unfold sizeS; first | (rw [if_pos (by omega)]; done) | (rw [if_neg (by omega), if_neg (by omega)]; done) | (rw [if_neg (by omega), if_neg (by omega)]; omega) | (have ht : V.cnts st = 0 := cnts_nil_of (by omega); rw [if_neg (by omega), if_pos (by omega)]; omega)
  · have hc2 := dec_f hc2
    refine w_skip ?_
    refine w_seq ?_
    refine w_region ?_
    refine o_rd (r_loadN (cs := [.int .i64 (ka), .int .i64 (na), sa]) Ty.agg24 Ty.csz24 (by simp only [ev, envOf, val_set, ofValue, ofCell, ↓reduceIte, Nat.reduceEqDiff] <;> rfl) (read_mt A1 (Nat.le_of_ble_eq_true rfl))) rfl rfl ?_
    refine o_nw W1 (a_build1 Try.underlying22 Ty.csz24 Ty.zero24 rfl (by simp only [ev, envOf, val_set, ofValue, ofCell, ↓reduceIte, Nat.reduceEqDiff] <;> rfl) rfl (by decide)) rfl rfl rfl (by simp) ?_; intro H3 n3 W3 X3 A3
    have E3 := E1.trans X3
    have O0 : Own H3 24 3 (freshSl (H1.n) 1 1) 1 [.int .i64 ka, .int .i64 na, sa] (H1.n) none := own_fresh (n := 1) (e := 3) A3 rfl
    have hN0 : New H0 (H1.n) none := ⟨E1.n, fun f h => by cases h⟩
    refine o_rd (r_assign (by simp only [ev, envOf, val_set, ofValue, ofCell, ↓reduceIte, Nat.reduceEqDiff] <;> rfl)) rfl rfl ?_
    refine o_nil ?_
    refine w_seq ?_
    refine w_region ?_
    refine o_rd (r_assign (by simp only [ev, envOf, val_set, ofValue, ofCell, ↓reduceIte, Nat.reduceEqDiff] <;> rfl)) rfl rfl ?_
    refine o_nil ?_
    refine w_seq ?_
    refine w_block ?_
    refine w_loop (fun m s => ∃ (e : Env) (H : AH) (nn : Nat) (st : List V) (sl : AV) (bs : Nat) (fs : Option Nat) (cs : List AV), s = ⟨e, H, []⟩ ∧ e.val 1 = .int .i64 (mo) ∧ e.val 4 = .int .i64 (0) ∧ e.val 5 = sl ∧ e.val 6 = .int .i64 (((nn : Nat) : Int)) ∧ Wf H ∧ Ext H0 H ∧ (Own H 24 3 sl st.length cs bs fs) ∧ (New H0 bs fs) ∧ (LA H0 st cs) ∧ (V.cnts st = m) ∧ (nn + V.cnts st = (V.mk ka na la).cnt) ∧ ((nn : Int) ≤ mo)) ((V.mk ka na la).cnt) ⟨_, H3, 0, [.mk ka na la], _, H1.n, none, _, rfl, (by simp only [val_set, ↓reduceIte, Nat.reduceEqDiff] <;> rfl), (by simp only [val_set, ↓reduceIte, Nat.reduceEqDiff] <;> rfl), (by simp only [val_set, ↓reduceIte, Nat.reduceEqDiff] <;> rfl), (by simp only [val_set, ↓reduceIte, Nat.reduceEqDiff] <;> rfl), W3, E3, O0, hN0, (LA.one (.mk _ _ _ _ hS)), (by simp [V.cnts]), (by simp [V.cnts]), (by omega)⟩ ?_
    intro m s hi
    obtain ⟨e, H4, nn, st, sl, bs, fs, cs, rfl, v1, v4, v5, v6, W4, E4, O, hN, hL, hm, hcn, hmo⟩ := hi
    have hls := V.len_cnts st
    refine w_seq ?_
    refine w_seq ?_
    refine w_region ?_
    refine o_rd (r_move (by simp only [ev, envOf, val_set, ofValue, ofCell, ↓reduceIte, Nat.reduceEqDiff, v1, v4, v5, v6] <;> rfl)) rfl rfl ?_
    refine o_rd (r_len (n := st.length) Try.underlying22 (by simp only [ev, envOf, val_set, ofValue, ofCell, ↓reduceIte, Nat.reduceEqDiff, v1, v4, v5, v6] <;> rfl) (own_lenOf O)) rfl rfl ?_
    refine o_rd (r_gt (a := ((st.length : Nat) : Int)) (b := 0) (by simp only [ev, envOf, val_set, ofValue, ofCell, ↓reduceIte, Nat.reduceEqDiff, v1, v4, v5, v6] <;> rfl) (by simp only [ev, envOf, val_set, ofValue, ofCell, ↓reduceIte, Nat.reduceEqDiff, v1, v4, v5, v6] <;> rfl)) rfl rfl ?_
    refine o_nil ?_
    refine w_cond (by simp only [ev, envOf, val_set, ofValue, ofCell, ↓reduceIte, Nat.reduceEqDiff, v1, v4, v5, v6] <;> rfl) (fun hc5 => ?_) (fun hc5 => ?_)
    · have hc5 := dec_t hc5
      refine w_skip ?_
      refine w_block ?_
      refine w_seq ?_
      refine w_region ?_
      obtain ⟨x, st, rfl⟩ : ∃ x r, st = r ++ [x] := ⟨st.getLast (by intro h; subst h; simp at *), st.dropLast, (List.dropLast_concat_getLast _).symm⟩
      rw [List.length_append, List.length_singleton] at O
      obtain ⟨c1, ax, rfl, hL1, hx⟩ := hL.append_inv
      obtain ⟨xk, xn, xl, xs, rfl, rfl, hxs⟩ := hx.one_inv.inv
      obtain ⟨os, cp, rfl, hcp, RS⟩ := O.read
      have hc1 : c1.length = st.length * 3 := hL1.len
      rw [V.cnts_append] at hm hcn; simp only [V.cnts, V.cnt] at hm hcn
      replace hls := V.len_cnts st; have hlx := V.len_cnts xl; have hbx := hxs.bound
      have rS : H4.read (.mt bs) (os + st.length * 3) 3 = some [.int .i64 xk, .int .i64 xn, xs] := by rw [read_part RS (by omega), ← hc1, List.drop_left]; rfl
      have hap0 : bs ≠ H4.n := by have := O.lt W4; omega
      refine o_rd (r_move (by simp only [ev, envOf, val_set, ofValue, ofCell, ↓reduceIte, Nat.reduceEqDiff, v1, v4, v5, v6] <;> rfl)) rfl rfl ?_
      refine o_rd (r_move (by simp only [ev, envOf, val_set, ofValue, ofCell, ↓reduceIte, Nat.reduceEqDiff, v1, v4, v5, v6] <;> rfl)) rfl rfl ?_
      refine o_rd (r_len (n := st.length + 1) Try.underlying22 (by simp only [ev, envOf, val_set, ofValue, ofCell, ↓reduceIte, Nat.reduceEqDiff, v1, v4, v5, v6] <;> rfl) rfl) rfl rfl ?_
      refine o_rd (r_subE (a := ((st.length + 1 : Nat) : Int)) (b := 1) (c := ((st.length : Nat) : Int)) (by simp only [ev, envOf, val_set, ofValue, ofCell, ↓reduceIte, Nat.reduceEqDiff, v1, v4, v5, v6] <;> rfl) (by simp only [ev, envOf, val_set, ofValue, ofCell, ↓reduceIte, Nat.reduceEqDiff, v1, v4, v5, v6] <;> rfl) (by omega) (by omega) (by omega)) rfl rfl ?_
      refine o_rd (r_indexAddr Try.underlying22 Ty.csz24 (by simp only [ev, envOf, val_set, ofValue, ofCell, ↓reduceIte, Nat.reduceEqDiff, v1, v4, v5, v6] <;> rfl) (by simp only [ev, envOf, val_set, ofValue, ofCell, ↓reduceIte, Nat.reduceEqDiff, v1, v4, v5, v6] <;> rfl) (by omega)) rfl rfl ?_
      refine o_rd (r_loadN Ty.agg24 Ty.csz24 (by simp only [ev, envOf, val_set, ofValue, ofCell, ↓reduceIte, Nat.reduceEqDiff, v1, v4, v5, v6] <;> rfl) rS) rfl rfl ?_
      refine o_nw W4 (a_alloc Ty.zero24) rfl rfl rfl (by simp) ?_; intro H6 n6 W6 X6 A6
      have A6 : H6.at H4.n = some (.row [.int .i64 (0), .int .i64 (0), .nils] 24 false none) := A6
      have E6 := E4.trans X6
      have g6 : H0.n ≤ H4.n := E4.n
      refine o_st W6 (by simp only [ev, envOf, val_set, ofValue, ofCell, ↓reduceIte, Nat.reduceEqDiff, v1, v4, v5, v6] <;> rfl) (by simp only [ev, envOf, val_set, ofValue, ofCell, ↓reduceIte, Nat.reduceEqDiff, v1, v4, v5, v6] <;> rfl) A6 Ty.csz24 rfl (Nat.le_of_ble_eq_true rfl) (by exact ones3 (SA.one' hxs)) rfl rfl ?_; intro H7 n7 W7 A7 K7
      have A7 : H7.at H4.n = some (.row [.int .i64 (xk), .int .i64 (xn), xs] 24 false none) := A7
      have E7 := Ext.put W0 E6 (by have := E6.n; omega) K7 n7 W7
      refine o_nil ?_
      refine w_seq ?_
      refine w_region ?_
      replace O := (O.ext X6).keep (H' := H7) (fun x hx hf => K7.own hx hap0)
      refine o_rd (r_move (by simp only [ev, envOf, val_set, ofValue, ofCell, ↓reduceIte, Nat.reduceEqDiff, v1, v4, v5, v6] <;> rfl)) rfl rfl ?_
      refine o_rd (r_move (by simp only [ev, envOf, val_set, ofValue, ofCell, ↓reduceIte, Nat.reduceEqDiff, v1, v4, v5, v6] <;> rfl)) rfl rfl ?_
      refine o_rd (r_len (n := st.length + 1) Try.underlying22 (by simp only [ev, envOf, val_set, ofValue, ofCell, ↓reduceIte, Nat.reduceEqDiff, v1, v4, v5, v6] <;> rfl) rfl) rfl rfl ?_
      refine o_rd (r_subE (a := ((st.length + 1 : Nat) : Int)) (b := 1) (c := ((st.length : Nat) : Int)) (by simp only [ev, envOf, val_set, ofValue, ofCell, ↓reduceIte, Nat.reduceEqDiff, v1, v4, v5, v6] <;> rfl) (by simp only [ev, envOf, val_set, ofValue, ofCell, ↓reduceIte, Nat.reduceEqDiff, v1, v4, v5, v6] <;> rfl) (by omega) (by omega) (by omega)) rfl rfl ?_
      refine o_rd (r_sliceTo (j := st.length) Try.underlying22 Ty.csz24 (by simp only [ev, envOf, val_set, ofValue, ofCell, ↓reduceIte, Nat.reduceEqDiff, v1, v4, v5, v6] <;> rfl) (by simp only [ev, envOf, val_set, ofValue, ofCell, ↓reduceIte, Nat.reduceEqDiff, v1, v4, v5, v6] <;> rfl) (by omega) O.cutOk) rfl rfl ?_
      have O1 := own_cut O (Nat.le_succ st.length)
      rw [← hc1, List.take_left] at O1
      refine o_rd (r_assign (by simp only [ev, envOf, val_set, ofValue, ofCell, ↓reduceIte, Nat.reduceEqDiff, v1, v4, v5, v6] <;> rfl)) rfl rfl ?_
      refine o_nil ?_
      refine w_seq ?_
      refine w_seq ?_
      refine w_region ?_
      refine o_rd (r_move (by simp only [ev, envOf, val_set, ofValue, ofCell, ↓reduceIte, Nat.reduceEqDiff, v1, v4, v5, v6] <;> rfl)) rfl rfl ?_
      refine o_rd (r_move (by simp only [ev, envOf, val_set, ofValue, ofCell, ↓reduceIte, Nat.reduceEqDiff, v1, v4, v5, v6] <;> rfl)) rfl rfl ?_
      refine o_rd (r_eq (a := ((nn : Nat) : Int)) (b := mo) (by simp only [ev, envOf, val_set, ofValue, ofCell, ↓reduceIte, Nat.reduceEqDiff, v1, v4, v5, v6] <;> rfl) (by simp only [ev, envOf, val_set, ofValue, ofCell, ↓reduceIte, Nat.reduceEqDiff, v1, v4, v5, v6] <;> rfl)) rfl rfl ?_
      refine o_nil ?_
      refine w_cond (by simp only [ev, envOf, val_set, ofValue, ofCell, ↓reduceIte, Nat.reduceEqDiff, v1, v4, v5, v6] <;> rfl) (fun hc8 => ?_) (fun hc8 => ?_)
      · have hc8 := dec_t hc8
        refine w_seq ?_
        refine w_region ?_
        refine o_rd (r_move (by simp only [ev, envOf, val_set, ofValue, ofCell, ↓reduceIte, Nat.reduceEqDiff, v1, v4, v5, v6] <;> rfl)) rfl rfl ?_
        refine o_rd (r_addE (a := mo) (b := 1) (c := mo + 1) (by simp only [ev, envOf, val_set, ofValue, ofCell, ↓reduceIte, Nat.reduceEqDiff, v1, v4, v5, v6] <;> rfl) (by simp only [ev, envOf, val_set, ofValue, ofCell, ↓reduceIte, Nat.reduceEqDiff, v1, v4, v5, v6] <;> rfl) (by omega) (by omega) (by omega)) rfl rfl ?_
        refine o_rd (r_assign (by simp only [ev, envOf, val_set, ofValue, ofCell, ↓reduceIte, Nat.reduceEqDiff, v1, v4, v5, v6] <;> rfl)) rfl rfl ?_
        refine o_nil ?_
        refine w_ret ⟨.inr rfl, rfl, .int .i64 (mo + 1), (show resultA Try.prog [.tmp 4] _ = _ by simp only [resultA, resultsA, envOf, val_set, ↓reduceIte, Nat.reduceEqDiff, Option.map_some, v1, v4, v5, v6] <;> rfl), ?_⟩
        try dsimp only
        refine ⟨congrArg (AV.int .i64) ?_, E7⟩; unfold sizeS; first | (rw [if_pos (by omega)]; done) | (rw [if_neg (by omega), if_neg (by omega)]; done) | (rw [if_neg (by omega), if_neg (by omega)]; omega) | (have ht : V.cnts st = 0 := cnts_nil_of (by omega); rw [if_neg (by omega), if_pos (by omega)]; omega)
      · have hc8 := dec_f hc8
        refine w_skip ?_
        refine w_seq ?_
        refine w_region ?_
        refine o_rd (r_move (by simp only [ev, envOf, val_set, ofValue, ofCell, ↓reduceIte, Nat.reduceEqDiff, v1, v4, v5, v6] <;> rfl)) rfl rfl ?_
        refine o_rd (r_addE (a := ((nn : Nat) : Int)) (b := 1) (c := ((nn + 1 : Nat) : Int)) (by simp only [ev, envOf, val_set, ofValue, ofCell, ↓reduceIte, Nat.reduceEqDiff, v1, v4, v5, v6] <;> rfl) (by simp only [ev, envOf, val_set, ofValue, ofCell, ↓reduceIte, Nat.reduceEqDiff, v1, v4, v5, v6] <;> rfl) (by omega) (by omega) (by omega)) rfl rfl ?_
        refine o_rd (r_assign (by simp only [ev, envOf, val_set, ofValue, ofCell, ↓reduceIte, Nat.reduceEqDiff, v1, v4, v5, v6] <;> rfl)) rfl rfl ?_
        refine o_nil ?_
        refine w_seq ?_
        refine w_region ?_
        refine o_rd (r_assign (by simp only [ev, envOf, val_set, ofValue, ofCell, ↓reduceIte, Nat.reduceEqDiff, v1, v4, v5, v6] <;> rfl)) rfl rfl ?_
        refine o_nil ?_
        refine w_block ?_
        refine w_loop (fun m s => ∃ (e : Env) (H : AH) (i : Nat) (st2 : List V) (sl2 : AV) (bs2 : Nat) (fs2 : Option Nat) (cs2 : List AV), s = ⟨e, H, []⟩ ∧ e.val 1 = .int .i64 (mo) ∧ e.val 4 = .int .i64 (0) ∧ e.val 5 = sl2 ∧ e.val 6 = .int .i64 (((nn + 1 : Nat) : Int)) ∧ e.val 7 = .ptr (.mt (H4.n)) (0) ∧ e.val 8 = .int .i64 (((i : Nat) : Int)) ∧ Wf H ∧ Ext H0 H ∧ H.at (H4.n) = some (.row [.int .i64 (xk), .int .i64 (xn), xs] 24 false none) ∧ (Own H 24 3 sl2 st2.length cs2 bs2 fs2) ∧ (New H0 bs2 fs2) ∧ (LA H0 st2 cs2) ∧ (i + m = xl.length) ∧ (nn + 1 + V.cnts st2 + V.cnts (xl.drop i) = (V.mk ka na la).cnt) ∧ (bs2 ≠ H4.n)) (xl.length) ⟨_, H7, 0, st, _, bs, fs, c1, rfl, (by simp only [val_set, ↓reduceIte, Nat.reduceEqDiff, v1, v4, v5, v6] <;> rfl), (by simp only [val_set, ↓reduceIte, Nat.reduceEqDiff, v1, v4, v5, v6] <;> rfl), (by simp only [val_set, ↓reduceIte, Nat.reduceEqDiff, v1, v4, v5, v6] <;> rfl), (by simp only [val_set, ↓reduceIte, Nat.reduceEqDiff, v1, v4, v5, v6] <;> rfl), (by simp only [val_set, ↓reduceIte, Nat.reduceEqDiff, v1, v4, v5, v6] <;> rfl), (by simp only [val_set, ↓reduceIte, Nat.reduceEqDiff, v1, v4, v5, v6] <;> rfl), W7, E7, A7, O1, hN, hL1, (by omega), (by rw [List.drop_zero]; omega), hap0⟩ ?_
        intro m s hi
        obtain ⟨e, H9, i, st2, sl2, bs2, fs2, cs2, rfl, v1, v4, v5, v6, v7, v8, W9, E9, A7, O2, hN2, hL2, hi, hcn2, hap⟩ := hi
        have l9_0 := W9.lt A7
        have hls2 := V.len_cnts st2
        refine w_seq ?_
        refine w_seq ?_
        refine w_region ?_
        refine o_rd (r_move (by simp only [ev, envOf, val_set, ofValue, ofCell, ↓reduceIte, Nat.reduceEqDiff, v1, v4, v5, v6, v7, v8] <;> rfl)) rfl rfl ?_
        refine o_rd (r_fieldAddr Ty.fo24_2 (by simp only [ev, envOf, val_set, ofValue, ofCell, ↓reduceIte, Nat.reduceEqDiff, v1, v4, v5, v6, v7, v8] <;> rfl)) rfl rfl ?_
        refine o_rd (r_load1 (v := xs) Ty.agg22 (by simp only [ev, envOf, val_set, ofValue, ofCell, ↓reduceIte, Nat.reduceEqDiff, v1, v4, v5, v6, v7, v8] <;> rfl) (read_mt A7 (Nat.le_of_ble_eq_true rfl))) rfl rfl ?_
        refine o_rd (r_len (n := xl.length) Try.underlying22 (by simp only [ev, envOf, val_set, ofValue, ofCell, ↓reduceIte, Nat.reduceEqDiff, v1, v4, v5, v6, v7, v8] <;> rfl) hxs.lenOf) rfl rfl ?_
        refine o_rd (r_lt (a := ((i : Nat) : Int)) (b := ((xl.length : Nat) : Int)) (by simp only [ev, envOf, val_set, ofValue, ofCell, ↓reduceIte, Nat.reduceEqDiff, v1, v4, v5, v6, v7, v8] <;> rfl) (by simp only [ev, envOf, val_set, ofValue, ofCell, ↓reduceIte, Nat.reduceEqDiff, v1, v4, v5, v6, v7, v8] <;> rfl)) rfl rfl ?_
        refine o_nil ?_
        refine w_cond (by simp only [ev, envOf, val_set, ofValue, ofCell, ↓reduceIte, Nat.reduceEqDiff, v1, v4, v5, v6, v7, v8] <;> rfl) (fun hc10 => ?_) (fun hc10 => ?_)
        · have hc10 := dec_t hc10
          refine w_skip ?_
          refine w_seq ?_
          refine w_block ?_
          refine w_region ?_
          have hi1 : i < xl.length := by omega
          obtain ⟨lox, ofx, cpx, cex, rfl, hrx, hvx⟩ := hxs.get hi1
          obtain ⟨yk, yn, yl, ys, rfl, hxe, hys⟩ := hvx.inv
          rw [List.drop_eq_getElem_cons hi1] at hcn2; simp only [V.cnts] at hcn2; rw [hxe] at hcn2; simp only [V.cnt] at hcn2
          refine o_rd (r_move (by simp only [ev, envOf, val_set, ofValue, ofCell, ↓reduceIte, Nat.reduceEqDiff, v1, v4, v5, v6, v7, v8] <;> rfl)) rfl rfl ?_
          refine o_rd (r_fieldAddr Ty.fo24_2 (by simp only [ev, envOf, val_set, ofValue, ofCell, ↓reduceIte, Nat.reduceEqDiff, v1, v4, v5, v6, v7, v8] <;> rfl)) rfl rfl ?_
          refine o_rd (r_load1 (v := .sl lox (ofx) (xl.length) cpx) Ty.agg22 (by simp only [ev, envOf, val_set, ofValue, ofCell, ↓reduceIte, Nat.reduceEqDiff, v1, v4, v5, v6, v7, v8] <;> rfl) (read_mt A7 (Nat.le_of_ble_eq_true rfl))) rfl rfl ?_
          refine o_rd (r_move (by simp only [ev, envOf, val_set, ofValue, ofCell, ↓reduceIte, Nat.reduceEqDiff, v1, v4, v5, v6, v7, v8] <;> rfl)) rfl rfl ?_
          refine o_rd (r_indexAddr Try.underlying22 Ty.csz24 (by simp only [ev, envOf, val_set, ofValue, ofCell, ↓reduceIte, Nat.reduceEqDiff, v1, v4, v5, v6, v7, v8] <;> rfl) (by simp only [ev, envOf, val_set, ofValue, ofCell, ↓reduceIte, Nat.reduceEqDiff, v1, v4, v5, v6, v7, v8] <;> rfl) hi1) rfl rfl ?_
          refine o_rd (r_loadN Ty.agg24 Ty.csz24 (by simp only [ev, envOf, val_set, ofValue, ofCell, ↓reduceIte, Nat.reduceEqDiff, v1, v4, v5, v6, v7, v8] <;> rfl) (E9.read hrx)) rfl rfl ?_
          refine o_nw W9 (a_build1 Try.underlying22 Ty.csz24 Ty.zero24 rfl (by simp only [ev, envOf, val_set, ofValue, ofCell, ↓reduceIte, Nat.reduceEqDiff, v1, v4, v5, v6, v7, v8] <;> rfl) rfl (by decide)) rfl rfl rfl (by simp) ?_; intro H11 n11 W11 X11 A11
          have E11 := E9.trans X11
          have A7 := X11.keep _ _ A7
          replace O2 := O2.ext X11
          refine o_ap W11 Try.underlying22 Try.underlying22 rfl Ty.csz24 Ty.byt24 Ty.zero24 rfl (by simp only [ev, envOf, val_set, ofValue, ofCell, ↓reduceIte, Nat.reduceEqDiff, v1, v4, v5, v6, v7, v8] <;> rfl) (by simp only [ev, envOf, val_set, ofValue, ofCell, ↓reduceIte, Nat.reduceEqDiff, v1, v4, v5, v6, v7, v8] <;> rfl) O2 (src_fresh (n := 1) A11 rfl) rfl (ones3 (SA.one' hys)) (by omega) rfl rfl ?_; intro sl3 H12 bs3 fs3 O3 W12 l12 u12 p12 q12 K12
          have E12 := Ext.keeps W0 E11 hN2 K12 l12 W12
          have hN3 := hN2.step E11.n p12 q12
          have hl7 := W11.lt A7
          have hap3 : bs3 ≠ H4.n := by rcases p12 with h | h <;> omega
          have A7 := K12.at A7 (by omega) rfl
          refine o_rd (r_assign (by simp only [ev, envOf, val_set, ofValue, ofCell, ↓reduceIte, Nat.reduceEqDiff, v1, v4, v5, v6, v7, v8] <;> rfl)) rfl rfl ?_
          refine o_nil ?_
          refine w_region ?_
          refine o_rd (r_move (by simp only [ev, envOf, val_set, ofValue, ofCell, ↓reduceIte, Nat.reduceEqDiff, v1, v4, v5, v6, v7, v8] <;> rfl)) rfl rfl ?_
          refine o_rd (r_addE (a := ((i : Nat) : Int)) (b := 1) (c := ((i + 1 : Nat) : Int)) (by simp only [ev, envOf, val_set, ofValue, ofCell, ↓reduceIte, Nat.reduceEqDiff, v1, v4, v5, v6, v7, v8] <;> rfl) (by simp only [ev, envOf, val_set, ofValue, ofCell, ↓reduceIte, Nat.reduceEqDiff, v1, v4, v5, v6, v7, v8] <;> rfl) (by omega) (by omega) (by omega)) rfl rfl ?_
          refine o_rd (r_assign (by simp only [ev, envOf, val_set, ofValue, ofCell, ↓reduceIte, Nat.reduceEqDiff, v1, v4, v5, v6, v7, v8] <;> rfl)) rfl rfl ?_
          refine o_nil ?_
          exact ⟨m - 1, (by omega), _, H12, i + 1, st2 ++ [xl[i]], sl3, bs3, fs3, (cs2 ++ [.int .i64 yk, .int .i64 yn, ys]), rfl, (by simp only [val_set, ↓reduceIte, Nat.reduceEqDiff, v1, v4, v5, v6, v7, v8] <;> rfl), (by simp only [val_set, ↓reduceIte, Nat.reduceEqDiff, v1, v4, v5, v6, v7, v8] <;> rfl), (by simp only [val_set, ↓reduceIte, Nat.reduceEqDiff, v1, v4, v5, v6, v7, v8] <;> rfl), (by simp only [val_set, ↓reduceIte, Nat.reduceEqDiff, v1, v4, v5, v6, v7, v8] <;> rfl), (by simp only [val_set, ↓reduceIte, Nat.reduceEqDiff, v1, v4, v5, v6, v7, v8] <;> rfl), (by simp only [val_set, ↓reduceIte, Nat.reduceEqDiff, v1, v4, v5, v6, v7, v8] <;> rfl), W12, E12, A7, (by rw [List.length_append, List.length_singleton]; exact O3), hN3, (hL2.append (LA.one hvx)), (by omega), (by rw [V.cnts_append]; simp only [V.cnts]; rw [hxe]; simp only [V.cnt]; omega), hap3⟩
        · have hc10 := dec_f hc10
          first | refine w_exit (blk_exit ?_) | refine w_exit (show (2 = 2 → _) ∧ (2 ≠ 2 → _) from ⟨fun _ => ?_, fun c => absurd rfl c⟩)
          have hcnE := hcn2; rw [List.drop_of_length_le (by omega)] at hcnE; simp only [V.cnts] at hcnE
          exact ⟨V.cnts st2, (by omega), _, H9, nn + 1, st2, sl2, bs2, fs2, cs2, rfl, (by simp only [val_set, ↓reduceIte, Nat.reduceEqDiff, v1, v4, v5, v6, v7, v8] <;> rfl), (by simp only [val_set, ↓reduceIte, Nat.reduceEqDiff, v1, v4, v5, v6, v7, v8] <;> rfl), (by simp only [val_set, ↓reduceIte, Nat.reduceEqDiff, v1, v4, v5, v6, v7, v8] <;> rfl), (by simp only [val_set, ↓reduceIte, Nat.reduceEqDiff, v1, v4, v5, v6, v7, v8] <;> rfl), W9, E9, O2, hN2, hL2, rfl, (by omega), (by omega)⟩
    · have hc5 := dec_f hc5
      first | refine w_exit (blk_exit ?_) | refine w_exit (show (0 = 0 → _) ∧ (0 ≠ 0 → _) from ⟨fun _ => ?_, fun c => absurd rfl c⟩)
      refine w_seq ?_
      refine w_region ?_
      refine o_rd (r_move (by simp only [ev, envOf, val_set, ofValue, ofCell, ↓reduceIte, Nat.reduceEqDiff, v1, v4, v5, v6] <;> rfl)) rfl rfl ?_
      refine o_rd (r_assign (by simp only [ev, envOf, val_set, ofValue, ofCell, ↓reduceIte, Nat.reduceEqDiff, v1, v4, v5, v6] <;> rfl)) rfl rfl ?_
      refine o_nil ?_
      refine w_ret ⟨.inr rfl, rfl, .int .i64 (((nn : Nat) : Int)), (show resultA Try.prog [.tmp 4] _ = _ by simp only [resultA, resultsA, envOf, val_set, ↓reduceIte, Nat.reduceEqDiff, Option.map_some, v1, v4, v5, v6] <;> rfl), ?_⟩
      try dsimp only
      refine ⟨congrArg (AV.int .i64) ?_, E4⟩; unfold sizeS; first | (rw [if_pos (by omega)]; done) | (rw [if_neg (by omega), if_neg (by omega)]; done) | (rw [if_neg (by omega), if_neg (by omega)]; omega) | (have ht : V.cnts st = 0 := cnts_nil_of (by omega); rw [if_neg (by omega), if_pos (by omega)]; omega)
end Go.Proofs.Ytenfjdkeikjhlaa.Vs
