/-
  ValueTells of squintlaw07 answers true.
-/
import Derived.Test.YtenfjdkeikjhlaaTellsP
set_option autoImplicit false
set_option linter.unusedVariables false
set_option linter.unusedSimpArgs false
namespace Go.Proofs.Ytenfjdkeikjhlaa.Vs
open Go.VI Go.Proofs
variable {orc : CallF}
set_option maxRecDepth 100000 in
set_option maxHeartbeats 4000000 in
theorem tells_fin (ho : NoOrcBut [9, 35, 36] orc) {H0 : AH} (W0 : Wf H0) (ho35 : ∀ a H, orc 35 a H = sortA 35 35 a H) (ho36 : ∀ a H, orc 36 a H = compactA 36 36 a H) (hs : ∀ H, orc 9 [] H = some (.ret (.bool true), H)) (ka na kb nb mo : Int) (la lb : List V) (sa sb : AV) (ha : SA H0 la sa) (hb : SA H0 lb sb) : Fin Try.prog orc 3 [.agg [.int .i64 (ka), .int .i64 (na), sa], .agg [.int .i64 (kb), .int .i64 (nb), sb], .int .i64 (mo)] H0 (fun r H' => r = .bool true ∧ Ext H0 H') := by
  have E0 := Ext.refl W0
  refine fin_of Try.func3 rfl (by rw [Try.ntmps3]; simp) (ho _ rfl _ _) ?_
  rw [Try.ntmps3]
  refine w_seq ?_
  refine w_region ?_
  refine o_nw W0 (a_box (by simp only [ev, envOf, val_set, ofValue, ofCell, ↓reduceIte, Nat.reduceEqDiff] <;> rfl)) rfl rfl rfl (by simp) ?_; intro H1 n1 W1 X1 A1
  have A1 : H1.at H0.n = some (.row [.int .i64 (ka), .int .i64 (na), sa] 24 false none) := A1
  have E1 := E0.trans X1
  have g1 : H0.n ≤ H0.n := E0.n
  refine o_nw W1 (a_box (by simp only [ev, envOf, val_set, ofValue, ofCell, ↓reduceIte, Nat.reduceEqDiff] <;> rfl)) rfl rfl rfl (by simp) ?_; intro H2 n2 W2 X2 A2
  have A2 : H2.at H1.n = some (.row [.int .i64 (kb), .int .i64 (nb), sb] 24 false none) := A2
  have E2 := E1.trans X2
  have g2 : H0.n ≤ H1.n := E1.n
  have A1 := X2.keep _ _ A1
  refine o_rd (r_assign (by simp only [ev, envOf, val_set, ofValue, ofCell, ↓reduceIte, Nat.reduceEqDiff] <;> rfl)) rfl rfl ?_
  refine o_nil ?_
  refine w_seq ?_
  refine w_region ?_
  refine o_cl rfl rfl (by simp only [evs, ev, envOf, val_set, ofValue, ofCell, ↓reduceIte, Nat.reduceEqDiff] <;> rfl) rfl (fin_orc hs W2) rfl rfl ?_; rintro _ H3 ⟨rfl, X3⟩
  have W3 := X3.wf; have E3 := E2.trans X3
  have A1 := X3.keep _ _ A1
  have A2 := X3.keep _ _ A2
  have n3 := X3.n
  refine o_rd (r_assign (by simp only [ev, envOf, val_set, ofValue, ofCell, ↓reduceIte, Nat.reduceEqDiff] <;> rfl)) rfl rfl ?_
  refine o_nil ?_
  refine w_seq ?_
  refine w_seq ?_
  refine w_region ?_
  refine o_rd (r_loadN (cs := [.int .i64 (ka), .int .i64 (na), sa]) Ty.agg24 Ty.csz24 (by simp only [ev, envOf, val_set, ofValue, ofCell, ↓reduceIte, Nat.reduceEqDiff] <;> rfl) (read_mt A1 (Nat.le_of_ble_eq_true rfl))) rfl rfl ?_
  refine o_cl rfl rfl (by simp only [evs, ev, envOf, val_set, ofValue, ofCell, ↓reduceIte, Nat.reduceEqDiff] <;> rfl) rfl (great_fin (ho 10 rfl) W3 ((VA.mk ka na la sa ha).ext E3)) rfl rfl ?_; rintro _ H4 ⟨rfl, X4⟩
  have W4 := X4.wf; have E4 := E3.trans X4
  have A1 := X4.keep _ _ A1
  have A2 := X4.keep _ _ A2
  have n4 := X4.n
  refine o_rd (r_move (by simp only [ev, envOf, val_set, ofValue, ofCell, ↓reduceIte, Nat.reduceEqDiff] <;> rfl)) rfl rfl ?_
  cases hg5 : (gr 65537 0 [(V.mk ka na la, 1)] : Bool)
  · skip
    refine o_rd (r_loadN (cs := [.int .i64 (kb), .int .i64 (nb), sb]) Ty.agg24 Ty.csz24 (by simp only [ev, envOf, val_set, ofValue, ofCell, ↓reduceIte, Nat.reduceEqDiff] <;> rfl) (read_mt A2 (Nat.le_of_ble_eq_true rfl))) rfl ((wanted_of (b := false) rfl rfl rfl (by simp only [val_set, ↓reduceIte, Nat.reduceEqDiff] <;> rfl)).trans rfl) ?_
    refine o_cl rfl rfl (by simp only [evs, ev, envOf, val_set, ofValue, ofCell, ↓reduceIte, Nat.reduceEqDiff] <;> rfl) rfl (great_fin (ho 10 rfl) W4 ((VA.mk kb nb lb sb hb).ext E4)) rfl ((wanted_of (b := false) rfl rfl rfl (by simp only [val_set, ↓reduceIte, Nat.reduceEqDiff] <;> rfl)).trans rfl) ?_; rintro _ H6 ⟨rfl, X6⟩
    have W6 := X6.wf; have E6 := E4.trans X6
    have A1 := X6.keep _ _ A1
    have A2 := X6.keep _ _ A2
    have n6 := X6.n
    refine o_rd (r_pick (t := false) (by simp only [ev, envOf, val_set, ofValue, ofCell, ↓reduceIte, Nat.reduceEqDiff] <;> rfl) (fun h => by cases h) (fun _ => (by simp only [ev, envOf, val_set, ofValue, ofCell, ↓reduceIte, Nat.reduceEqDiff] <;> rfl))) rfl rfl ?_
    refine o_nil ?_
    refine w_cond (by simp only [ev, envOf, val_set, ofValue, ofCell, ↓reduceIte, Nat.reduceEqDiff] <;> rfl) (fun hc7 => ?_) (fun hc7 => ?_)
    · skip
      refine w_seq ?_
      refine w_region ?_
      refine o_rd (r_move (by simp only [ev, envOf, val_set, ofValue, ofCell, ↓reduceIte, Nat.reduceEqDiff] <;> rfl)) rfl rfl ?_
      refine o_rd (r_assign (by simp only [ev, envOf, val_set, ofValue, ofCell, ↓reduceIte, Nat.reduceEqDiff] <;> rfl)) rfl rfl ?_
      refine o_nil ?_
      refine w_ret ⟨.inr rfl, rfl, .bool (true), (show resultA Try.prog [.tmp 6] _ = _ by simp only [resultA, resultsA, envOf, val_set, ↓reduceIte, Nat.reduceEqDiff, Option.map_some] <;> rfl), ?_⟩
      try dsimp only
      exact ⟨by first | rfl | (exfalso; omega), E6⟩
    · skip
      refine w_skip ?_
      refine w_seq ?_
      refine w_region ?_
      have hga : gr 65537 0 [(V.mk ka na la, 1)] = false := by first | assumption | skip
      have hgb : gr 65537 0 [(V.mk kb nb lb, 1)] = false := by first | assumption | skip
      have hca := great_cnt hga; have hcb := great_cnt hgb
      refine o_rd (r_loadN (cs := [.int .i64 (ka), .int .i64 (na), sa]) Ty.agg24 Ty.csz24 (by simp only [ev, envOf, val_set, ofValue, ofCell, ↓reduceIte, Nat.reduceEqDiff] <;> rfl) (read_mt A1 (Nat.le_of_ble_eq_true rfl))) rfl rfl ?_
      refine o_cl rfl rfl (by simp only [evs, ev, envOf, val_set, ofValue, ofCell, ↓reduceIte, Nat.reduceEqDiff] <;> rfl) rfl (ownL_at ho W6 (k := ka) (n := na) (l := la) (by omega) (VA.mk ka na la _ (ha.ext E6))) rfl rfl ?_; rintro _ H8 ⟨sx, rfl, hx, X8⟩
      have W8 := X8.wf; have E8 := E6.trans X8
      have A1 := X8.keep _ _ A1
      have A2 := X8.keep _ _ A2
      have n8 := X8.n
      refine o_nw W8 (a_alloc Ty.zero24) rfl rfl rfl (by simp) ?_; intro H9 n9 W9 X9 A9
      have A9 : H9.at H8.n = some (.row [.int .i64 (0), .int .i64 (0), .nils] 24 false none) := A9
      have E9 := E8.trans X9
      have g9 : H0.n ≤ H8.n := E8.n
      have A1 := X9.keep _ _ A1
      have A2 := X9.keep _ _ A2
      refine o_st W9 (by simp only [ev, envOf, val_set, ofValue, ofCell, ↓reduceIte, Nat.reduceEqDiff] <;> rfl) (by simp only [ev, envOf, val_set, ofValue, ofCell, ↓reduceIte, Nat.reduceEqDiff] <;> rfl) A9 Ty.csz24 rfl (Nat.le_of_ble_eq_true rfl) (by first | rfl | exact ones3 (SA.one' (pa_sa hx)) | exact ones3 (SA.one' (pa_sa hy))) rfl rfl ?_; intro H10 n10 W10 A10 K10
      have A10 : H10.at H8.n = some (.row [.int .i64 (ka), .int .i64 (na), sx] 24 false none) := A10
      have E10 := Ext.put W0 E9 (by have := E9.n; omega) K10 n10 W10
      have A1 := K10.own A1 (by omega)
      have A2 := K10.own A2 (by omega)
      refine o_nil ?_
      refine w_seq ?_
      refine w_region ?_
      refine o_rd (r_loadN (cs := [.int .i64 (kb), .int .i64 (nb), sb]) Ty.agg24 Ty.csz24 (by simp only [ev, envOf, val_set, ofValue, ofCell, ↓reduceIte, Nat.reduceEqDiff] <;> rfl) (read_mt A2 (Nat.le_of_ble_eq_true rfl))) rfl rfl ?_
      refine o_cl rfl rfl (by simp only [evs, ev, envOf, val_set, ofValue, ofCell, ↓reduceIte, Nat.reduceEqDiff] <;> rfl) rfl (ownL_at ho W10 (k := kb) (n := nb) (l := lb) (by omega) (VA.mk kb nb lb _ (hb.ext E10))) rfl rfl ?_; rintro _ H11 ⟨sy, rfl, hy, X11⟩
      have W11 := X11.wf; have E11 := E10.trans X11
      have A1 := X11.keep _ _ A1
      have A2 := X11.keep _ _ A2
      have A10 := X11.keep _ _ A10
      have n11 := X11.n
      refine o_nw W11 (a_alloc Ty.zero24) rfl rfl rfl (by simp) ?_; intro H12 n12 W12 X12 A12
      have A12 : H12.at H11.n = some (.row [.int .i64 (0), .int .i64 (0), .nils] 24 false none) := A12
      have E12 := E11.trans X12
      have g12 : H0.n ≤ H11.n := E11.n
      have A1 := X12.keep _ _ A1
      have A2 := X12.keep _ _ A2
      have A10 := X12.keep _ _ A10
      refine o_st W12 (by simp only [ev, envOf, val_set, ofValue, ofCell, ↓reduceIte, Nat.reduceEqDiff] <;> rfl) (by simp only [ev, envOf, val_set, ofValue, ofCell, ↓reduceIte, Nat.reduceEqDiff] <;> rfl) A12 Ty.csz24 rfl (Nat.le_of_ble_eq_true rfl) (by first | rfl | exact ones3 (SA.one' (pa_sa hx)) | exact ones3 (SA.one' (pa_sa hy))) rfl rfl ?_; intro H13 n13 W13 A13 K13
      have A13 : H13.at H11.n = some (.row [.int .i64 (kb), .int .i64 (nb), sy] 24 false none) := A13
      have E13 := Ext.put W0 E12 (by have := E12.n; omega) K13 n13 W13
      have A1 := K13.own A1 (by omega)
      have A2 := K13.own A2 (by omega)
      have A10 := K13.own A10 (by omega)
      refine o_nil ?_
      refine w_seq ?_
      refine w_seq ?_
      refine w_region ?_
      have hX := hx.ext (Ext.put W8 (((Ext.put W8 ((Ext.refl W8).trans X9) (by omega) K10 n10 W10).trans X11).trans X12) (by omega) K13 n13 W13)
      have hXs := pa_sa hX
      have hYs := (pa_sa hy).ext (Ext.put W11 ((Ext.refl W11).trans X12) (by omega) K13 n13 W13)
      refine o_rd (r_assign (by simp only [ev, envOf, val_set, ofValue, ofCell, ↓reduceIte, Nat.reduceEqDiff] <;> rfl)) rfl rfl ?_
      refine o_nil ?_
      refine w_block ?_
      refine w_loop (fun m s => ∃ (e : Env) (H : AH) (i : Nat), s = ⟨e, H, []⟩ ∧ e.val 2 = .int .i64 (mo) ∧ e.val 3 = .ptr (.mt (H0.n)) (0) ∧ e.val 4 = .ptr (.mt (H1.n)) (0) ∧ e.val 6 = .bool (false) ∧ e.val 7 = .bool (true) ∧ e.val 8 = .ptr (.mt (H8.n)) (0) ∧ e.val 9 = .ptr (.mt (H11.n)) (0) ∧ e.val 10 = .int .i64 (((i : Nat) : Int)) ∧ Wf H ∧ Ext H0 H ∧ H.at (H0.n) = some (.row [.int .i64 (ka), .int .i64 (na), sa] 24 false none) ∧ H.at (H1.n) = some (.row [.int .i64 (kb), .int .i64 (nb), sb] 24 false none) ∧ H.at (H8.n) = some (.row [.int .i64 (ka), .int .i64 (na), sx] 24 false none) ∧ H.at (H11.n) = some (.row [.int .i64 (kb), .int .i64 (nb), sy] 24 false none) ∧ (Ext H13 H) ∧ (i + m = 2)) (2) ⟨_, H13, 0, rfl, (by simp only [val_set, ↓reduceIte, Nat.reduceEqDiff] <;> rfl), (by simp only [val_set, ↓reduceIte, Nat.reduceEqDiff] <;> rfl), (by simp only [val_set, ↓reduceIte, Nat.reduceEqDiff] <;> rfl), (by simp only [val_set, ↓reduceIte, Nat.reduceEqDiff] <;> rfl), (by simp only [val_set, ↓reduceIte, Nat.reduceEqDiff] <;> rfl), (by simp only [val_set, ↓reduceIte, Nat.reduceEqDiff] <;> rfl), (by simp only [val_set, ↓reduceIte, Nat.reduceEqDiff] <;> rfl), (by simp only [val_set, ↓reduceIte, Nat.reduceEqDiff] <;> rfl), W13, E13, A1, A2, A10, A13, (Ext.refl W13), (by omega)⟩ ?_
      intro m s hi
      obtain ⟨e, H14, i, rfl, v2, v3, v4, v6, v7, v8, v9, v10, W14, E14, A1, A2, A10, A13, EL, him⟩ := hi
      have l14_0 := W14.lt A1
      have l14_1 := W14.lt A2
      have l14_2 := W14.lt A10
      have l14_3 := W14.lt A13
      refine w_seq ?_
      refine w_seq ?_
      refine w_region ?_
      refine o_rd (r_move (by simp only [ev, envOf, val_set, ofValue, ofCell, ↓reduceIte, Nat.reduceEqDiff, v2, v3, v4, v6, v7, v8, v9, v10] <;> rfl)) rfl rfl ?_
      refine o_rd (r_lt (a := ((i : Nat) : Int)) (b := 2) (by simp only [ev, envOf, val_set, ofValue, ofCell, ↓reduceIte, Nat.reduceEqDiff, v2, v3, v4, v6, v7, v8, v9, v10] <;> rfl) (by simp only [ev, envOf, val_set, ofValue, ofCell, ↓reduceIte, Nat.reduceEqDiff, v2, v3, v4, v6, v7, v8, v9, v10] <;> rfl)) rfl rfl ?_
      refine o_nil ?_
      refine w_cond (by simp only [ev, envOf, val_set, ofValue, ofCell, ↓reduceIte, Nat.reduceEqDiff, v2, v3, v4, v6, v7, v8, v9, v10] <;> rfl) (fun hc15 => ?_) (fun hc15 => ?_)
      · have hc15 := dec_t hc15
        refine w_skip ?_
        refine w_seq ?_
        refine w_block ?_
        refine w_seq ?_
        refine w_region ?_
        refine o_rd (r_loadN (cs := [.int .i64 (ka), .int .i64 (na), sx]) Ty.agg24 Ty.csz24 (by simp only [ev, envOf, val_set, ofValue, ofCell, ↓reduceIte, Nat.reduceEqDiff, v2, v3, v4, v6, v7, v8, v9, v10] <;> rfl) (read_mt A10 (Nat.le_of_ble_eq_true rfl))) rfl rfl ?_
        have nC0 := E14.n; have nC1 := ((EL.trans (Ext.refl W14))).n
        refine o_cl rfl rfl (by simp only [evs, ev, envOf, val_set, ofValue, ofCell, ↓reduceIte, Nat.reduceEqDiff, v2, v3, v4, v6, v7, v8, v9, v10] <;> rfl) rfl (chans_fin ho ho35 ho36 W14 ka na la _ (hXs.ext (EL.trans (Ext.refl W14))) (by omega)) rfl rfl ?_; rintro rl H16 ⟨l, hRi, hmq, hll, hown, X16⟩
        have W16 := X16.wf; have E16 := E14.trans X16
        have n16 := X16.n
        have lb_A1 := W14.lt A1; have A1 := X16.keep _ _ A1
        have lb_A2 := W14.lt A2; have A2 := X16.keep _ _ A2
        have lb_A10 := W14.lt A10; have A10 := X16.keep _ _ A10
        have lb_A13 := W14.lt A13; have A13 := X16.keep _ _ A13
        have hSI : SI H16 l rl := hown.elim (fun h => by rw [h.1, h.2]; exact .nil) (fun ⟨b, f, h1, h2, h3⟩ => si_own h2 (by omega))
        refine o_rd (r_assign (by simp only [ev, envOf, val_set, ofValue, ofCell, ↓reduceIte, Nat.reduceEqDiff, v2, v3, v4, v6, v7, v8, v9, v10] <;> rfl)) rfl rfl ?_
        refine o_nil ?_
        refine w_seq ?_
        refine w_seq ?_
        refine w_draw (ms := [0, 1, 0, 7, 15, 31, 63, 63, 255, 63, 63, 2047, 4095, 8191, 16383, 32767, 32767, 131071, 32767, 32767, 1048575, 2097151, 4194303, 8388607, 16777215, 16777215, 67108863, 134217727, 268435455, 536870911, 1073741823, 1073741823, 3221225471, 8589934591, 17179869183, 34359738367]) (ord := [0, 2, 1, 3, 4, 5, 6, 7, 9, 10, 8, 11, 12, 13, 14, 15, 16, 18, 19, 17, 20, 21, 22, 23, 24, 25, 26, 27, 28, 29, 30, 31, 32, 33, 34, 35]) (by kernel_rfl) (by kernel_rfl) (by kernel_rfl) ?_
        refine d_rd rfl (r_loadN (cs := [.int .i64 (ka), .int .i64 (na), sx]) Ty.agg24 Ty.csz24 (by simp only [ev, envOf, val_set, ofValue, ofCell, ↓reduceIte, Nat.reduceEqDiff, v2, v3, v4, v6, v7, v8, v9, v10] <;> rfl) (read_mt A10 (Nat.le_of_ble_eq_true rfl))) rfl rfl ?_
        refine d_rd rfl (r_loadN (cs := [.int .i64 (ka), .int .i64 (na), sa]) Ty.agg24 Ty.csz24 (by simp only [ev, envOf, val_set, ofValue, ofCell, ↓reduceIte, Nat.reduceEqDiff, v2, v3, v4, v6, v7, v8, v9, v10] <;> rfl) (read_mt A1 (Nat.le_of_ble_eq_true rfl))) rfl rfl ?_
        refine d_cl rfl rfl rfl (by simp only [evs, ev, envOf, val_set, ofValue, ofCell, ↓reduceIte, Nat.reduceEqDiff, v2, v3, v4, v6, v7, v8, v9, v10] <;> rfl) rfl (valid_fin ho (V.mk ka na la) _ W16 _ (VA.mk ka na la _ (hXs.ext (EL.trans ((Ext.refl W14).trans X16))))) rfl rfl ?_; rintro _ H17 ⟨rfl, X17⟩
        have W17 := X17.wf; have E17 := E16.trans X17
        have A1 := X17.keep _ _ A1
        have A2 := X17.keep _ _ A2
        have A10 := X17.keep _ _ A10
        have A13 := X17.keep _ _ A13
        have n17 := X17.n
        refine ⟨re_same (r_loadN (cs := [.int .i64 (ka), .int .i64 (na), sa]) Ty.agg24 Ty.csz24 (by simp only [ev, envOf, val_set, ofValue, ofCell, ↓reduceIte, Nat.reduceEqDiff, v2, v3, v4, v6, v7, v8, v9, v10] <;> rfl) (read_mt A1 (Nat.le_of_ble_eq_true rfl))) (re_forcedL (M := 1) (I := 0) rfl rfl (by decide) (re_nil)), ?_⟩
        refine d_cl rfl rfl rfl (by simp only [evs, ev, envOf, val_set, ofValue, ofCell, ↓reduceIte, Nat.reduceEqDiff, v2, v3, v4, v6, v7, v8, v9, v10] <;> rfl) rfl (validR_fin ho (V.mk ka na la) _ W17 _ (VA.mk ka na la _ (ha.ext E17))) rfl rfl ?_; rintro _ H18 ⟨rfl, X18⟩
        have W18 := X18.wf; have E18 := E17.trans X18
        have A1 := X18.keep _ _ A1
        have A2 := X18.keep _ _ A2
        have A10 := X18.keep _ _ A10
        have A13 := X18.keep _ _ A13
        have n18 := X18.n
        refine ⟨re_forcedL (M := 7) (I := 2) rfl rfl (by decide) (re_forcedL (M := 7) (I := 0) rfl rfl (by decide) (re_nil)), ?_⟩
        refine d_rd rfl (r_neqB (b := okV (V.mk ka na la)) Try.underlying4 (by simp only [ev, envOf, val_set, ofValue, ofCell, ↓reduceIte, Nat.reduceEqDiff, v2, v3, v4, v6, v7, v8, v9, v10] <;> rfl) (by simp only [ev, envOf, val_set, ofValue, ofCell, ↓reduceIte, Nat.reduceEqDiff, v2, v3, v4, v6, v7, v8, v9, v10] <;> rfl) (r_neB Try.underlying4 (by simp only [ev, envOf, val_set, ofValue, ofCell, ↓reduceIte, Nat.reduceEqDiff, v2, v3, v4, v6, v7, v8, v9, v10] <;> rfl) (by simp only [ev, envOf, val_set, ofValue, ofCell, ↓reduceIte, Nat.reduceEqDiff, v2, v3, v4, v6, v7, v8, v9, v10] <;> rfl))) rfl rfl ?_
        refine d_rd rfl (r_move (by simp only [ev, envOf, val_set, ofValue, ofCell, ↓reduceIte, Nat.reduceEqDiff, v2, v3, v4, v6, v7, v8, v9, v10] <;> rfl)) rfl rfl ?_
        refine d_rd rfl (r_loadN (cs := [.int .i64 (ka), .int .i64 (na), sx]) Ty.agg24 Ty.csz24 (by simp only [ev, envOf, val_set, ofValue, ofCell, ↓reduceIte, Nat.reduceEqDiff, v2, v3, v4, v6, v7, v8, v9, v10] <;> rfl) (read_mt A10 (Nat.le_of_ble_eq_true rfl))) rfl ((wanted_of (b := false) rfl rfl rfl (by simp only [val_set, ↓reduceIte, Nat.reduceEqDiff, v2, v3, v4, v6, v7, v8, v9, v10] <;> rfl)).trans rfl) ?_
        refine d_rd rfl (r_move (by simp only [ev, envOf, val_set, ofValue, ofCell, ↓reduceIte, Nat.reduceEqDiff, v2, v3, v4, v6, v7, v8, v9, v10] <;> rfl)) rfl ((wanted_of (b := false) rfl rfl rfl (by simp only [val_set, ↓reduceIte, Nat.reduceEqDiff, v2, v3, v4, v6, v7, v8, v9, v10] <;> rfl)).trans rfl) ?_
        refine d_rd rfl (r_loadN (cs := [.int .i64 (ka), .int .i64 (na), sa]) Ty.agg24 Ty.csz24 (by simp only [ev, envOf, val_set, ofValue, ofCell, ↓reduceIte, Nat.reduceEqDiff, v2, v3, v4, v6, v7, v8, v9, v10] <;> rfl) (read_mt A1 (Nat.le_of_ble_eq_true rfl))) rfl ((wanted_of (b := false) rfl rfl rfl (by simp only [val_set, ↓reduceIte, Nat.reduceEqDiff, v2, v3, v4, v6, v7, v8, v9, v10] <;> rfl)).trans rfl) ?_
        refine d_rd rfl (r_move (by simp only [ev, envOf, val_set, ofValue, ofCell, ↓reduceIte, Nat.reduceEqDiff, v2, v3, v4, v6, v7, v8, v9, v10] <;> rfl)) rfl ((wanted_of (b := false) rfl rfl rfl (by simp only [val_set, ↓reduceIte, Nat.reduceEqDiff, v2, v3, v4, v6, v7, v8, v9, v10] <;> rfl)).trans rfl) ?_
        refine d_cl rfl rfl rfl (by simp only [evs, ev, envOf, val_set, ofValue, ofCell, ↓reduceIte, Nat.reduceEqDiff, v2, v3, v4, v6, v7, v8, v9, v10] <;> rfl) rfl (size_fin ho W18 ka na mo la _ (hXs.ext (EL.trans ((((Ext.refl W14).trans X16).trans X17).trans X18))) (by omega)) rfl ((wanted_of (b := false) rfl rfl rfl (by simp only [val_set, ↓reduceIte, Nat.reduceEqDiff, v2, v3, v4, v6, v7, v8, v9, v10] <;> rfl)).trans rfl) ?_; rintro _ H19 ⟨rfl, X19⟩
        have W19 := X19.wf; have E19 := E18.trans X19
        have A1 := X19.keep _ _ A1
        have A2 := X19.keep _ _ A2
        have A10 := X19.keep _ _ A10
        have A13 := X19.keep _ _ A13
        have n19 := X19.n
        refine ⟨re_same (r_move (by simp only [ev, envOf, val_set, ofValue, ofCell, ↓reduceIte, Nat.reduceEqDiff, v2, v3, v4, v6, v7, v8, v9, v10] <;> rfl)) (re_same (r_loadN (cs := [.int .i64 (ka), .int .i64 (na), sa]) Ty.agg24 Ty.csz24 (by simp only [ev, envOf, val_set, ofValue, ofCell, ↓reduceIte, Nat.reduceEqDiff, v2, v3, v4, v6, v7, v8, v9, v10] <;> rfl) (read_mt A1 (Nat.le_of_ble_eq_true rfl))) (re_forcedL (M := 255) (I := 7) rfl rfl (by decide) (re_forcedL (M := 255) (I := 6) rfl rfl (by decide) (re_forcedL (M := 255) (I := 5) rfl rfl (by decide) (re_forcedL (M := 255) (I := 4) rfl rfl (by decide) (re_forcedL (M := 255) (I := 2) rfl rfl (by decide) (re_forcedL (M := 255) (I := 0) rfl rfl (by decide) (re_nil)))))))), ?_⟩
        refine d_cl rfl rfl rfl (by simp only [evs, ev, envOf, val_set, ofValue, ofCell, ↓reduceIte, Nat.reduceEqDiff, v2, v3, v4, v6, v7, v8, v9, v10] <;> rfl) rfl (sizeR_fin ho W19 ka na mo la _ (ha.ext E19) (by omega)) rfl ((wanted_of (b := false) rfl rfl rfl (by simp only [val_set, ↓reduceIte, Nat.reduceEqDiff, v2, v3, v4, v6, v7, v8, v9, v10] <;> rfl)).trans rfl) ?_; rintro _ H20 ⟨rfl, X20⟩
        have W20 := X20.wf; have E20 := E19.trans X20
        have A1 := X20.keep _ _ A1
        have A2 := X20.keep _ _ A2
        have A10 := X20.keep _ _ A10
        have A13 := X20.keep _ _ A13
        have n20 := X20.n
        refine ⟨re_forcedL (M := 2047) (I := 10) rfl rfl (by decide) (re_forcedL (M := 2047) (I := 9) rfl rfl (by decide) (re_forcedL (M := 2047) (I := 7) rfl rfl (by decide) (re_forcedL (M := 2047) (I := 6) rfl rfl (by decide) (re_forcedL (M := 2047) (I := 5) rfl rfl (by decide) (re_forcedL (M := 2047) (I := 4) rfl rfl (by decide) (re_forcedL (M := 2047) (I := 2) rfl rfl (by decide) (re_forcedL (M := 2047) (I := 0) rfl rfl (by decide) (re_nil)))))))), ?_⟩
        refine d_rd rfl (r_neqI (a := sizeS (V.mk ka na la).cnt mo) (r_ne (by simp only [ev, envOf, val_set, ofValue, ofCell, ↓reduceIte, Nat.reduceEqDiff, v2, v3, v4, v6, v7, v8, v9, v10] <;> rfl) (by simp only [ev, envOf, val_set, ofValue, ofCell, ↓reduceIte, Nat.reduceEqDiff, v2, v3, v4, v6, v7, v8, v9, v10] <;> rfl))) rfl ((wanted_of (b := false) rfl rfl rfl (by simp only [val_set, ↓reduceIte, Nat.reduceEqDiff, v2, v3, v4, v6, v7, v8, v9, v10] <;> rfl)).trans rfl) ?_
        refine d_rd rfl (r_pick (t := false) (by simp only [ev, envOf, val_set, ofValue, ofCell, ↓reduceIte, Nat.reduceEqDiff, v2, v3, v4, v6, v7, v8, v9, v10] <;> rfl) (fun h => by cases h) (fun _ => (by simp only [ev, envOf, val_set, ofValue, ofCell, ↓reduceIte, Nat.reduceEqDiff, v2, v3, v4, v6, v7, v8, v9, v10] <;> rfl))) rfl rfl ?_
        refine d_rd rfl (r_move (by simp only [ev, envOf, val_set, ofValue, ofCell, ↓reduceIte, Nat.reduceEqDiff, v2, v3, v4, v6, v7, v8, v9, v10] <;> rfl)) rfl rfl ?_
        refine d_rd rfl (r_loadN (cs := [.int .i64 (ka), .int .i64 (na), sx]) Ty.agg24 Ty.csz24 (by simp only [ev, envOf, val_set, ofValue, ofCell, ↓reduceIte, Nat.reduceEqDiff, v2, v3, v4, v6, v7, v8, v9, v10] <;> rfl) (read_mt A10 (Nat.le_of_ble_eq_true rfl))) rfl ((wanted_of (b := false) rfl rfl rfl (by simp only [val_set, ↓reduceIte, Nat.reduceEqDiff, v2, v3, v4, v6, v7, v8, v9, v10] <;> rfl)).trans rfl) ?_
        refine d_rd rfl (r_loadN (cs := [.int .i64 (kb), .int .i64 (nb), sy]) Ty.agg24 Ty.csz24 (by simp only [ev, envOf, val_set, ofValue, ofCell, ↓reduceIte, Nat.reduceEqDiff, v2, v3, v4, v6, v7, v8, v9, v10] <;> rfl) (read_mt A13 (Nat.le_of_ble_eq_true rfl))) rfl ((wanted_of (b := false) rfl rfl rfl (by simp only [val_set, ↓reduceIte, Nat.reduceEqDiff, v2, v3, v4, v6, v7, v8, v9, v10] <;> rfl)).trans rfl) ?_
        refine d_rd rfl (r_loadN (cs := [.int .i64 (ka), .int .i64 (na), sa]) Ty.agg24 Ty.csz24 (by simp only [ev, envOf, val_set, ofValue, ofCell, ↓reduceIte, Nat.reduceEqDiff, v2, v3, v4, v6, v7, v8, v9, v10] <;> rfl) (read_mt A1 (Nat.le_of_ble_eq_true rfl))) rfl ((wanted_of (b := false) rfl rfl rfl (by simp only [val_set, ↓reduceIte, Nat.reduceEqDiff, v2, v3, v4, v6, v7, v8, v9, v10] <;> rfl)).trans rfl) ?_
        refine d_rd rfl (r_loadN (cs := [.int .i64 (kb), .int .i64 (nb), sb]) Ty.agg24 Ty.csz24 (by simp only [ev, envOf, val_set, ofValue, ofCell, ↓reduceIte, Nat.reduceEqDiff, v2, v3, v4, v6, v7, v8, v9, v10] <;> rfl) (read_mt A2 (Nat.le_of_ble_eq_true rfl))) rfl ((wanted_of (b := false) rfl rfl rfl (by simp only [val_set, ↓reduceIte, Nat.reduceEqDiff, v2, v3, v4, v6, v7, v8, v9, v10] <;> rfl)).trans rfl) ?_
        refine d_cl rfl rfl rfl (by simp only [evs, ev, envOf, val_set, ofValue, ofCell, ↓reduceIte, Nat.reduceEqDiff, v2, v3, v4, v6, v7, v8, v9, v10] <;> rfl) rfl (sameV_fin ho (V.mk ka na la) _ W20 (V.mk kb nb lb) _ _ (VA.mk ka na la _ (hXs.ext (EL.trans ((((((Ext.refl W14).trans X16).trans X17).trans X18).trans X19).trans X20)))) (VA.mk kb nb lb _ (hYs.ext (EL.trans ((((((Ext.refl W14).trans X16).trans X17).trans X18).trans X19).trans X20))))) rfl ((wanted_of (b := false) rfl rfl rfl (by simp only [val_set, ↓reduceIte, Nat.reduceEqDiff, v2, v3, v4, v6, v7, v8, v9, v10] <;> rfl)).trans rfl) ?_; rintro _ H21 ⟨rfl, X21⟩
        have W21 := X21.wf; have E21 := E20.trans X21
        have A1 := X21.keep _ _ A1
        have A2 := X21.keep _ _ A2
        have A10 := X21.keep _ _ A10
        have A13 := X21.keep _ _ A13
        have n21 := X21.n
        refine ⟨re_same (r_loadN (cs := [.int .i64 (kb), .int .i64 (nb), sb]) Ty.agg24 Ty.csz24 (by simp only [ev, envOf, val_set, ofValue, ofCell, ↓reduceIte, Nat.reduceEqDiff, v2, v3, v4, v6, v7, v8, v9, v10] <;> rfl) (read_mt A2 (Nat.le_of_ble_eq_true rfl))) (re_same (r_loadN (cs := [.int .i64 (ka), .int .i64 (na), sa]) Ty.agg24 Ty.csz24 (by simp only [ev, envOf, val_set, ofValue, ofCell, ↓reduceIte, Nat.reduceEqDiff, v2, v3, v4, v6, v7, v8, v9, v10] <;> rfl) (read_mt A1 (Nat.le_of_ble_eq_true rfl))) (re_forcedL (M := 131071) (I := 16) rfl rfl (by decide) (re_forcedL (M := 131071) (I := 15) rfl rfl (by decide) (re_forcedL (M := 131071) (I := 14) rfl rfl (by decide) (re_forcedL (M := 131071) (I := 13) rfl rfl (by decide) (re_forcedL (M := 131071) (I := 12) rfl rfl (by decide) (re_forcedL (M := 131071) (I := 10) rfl rfl (by decide) (re_forcedL (M := 131071) (I := 9) rfl rfl (by decide) (re_forcedL (M := 131071) (I := 7) rfl rfl (by decide) (re_forcedL (M := 131071) (I := 6) rfl rfl (by decide) (re_forcedL (M := 131071) (I := 5) rfl rfl (by decide) (re_forcedL (M := 131071) (I := 4) rfl rfl (by decide) (re_forcedL (M := 131071) (I := 2) rfl rfl (by decide) (re_forcedL (M := 131071) (I := 0) rfl rfl (by decide) (re_nil))))))))))))))), ?_⟩
        refine d_cl rfl rfl rfl (by simp only [evs, ev, envOf, val_set, ofValue, ofCell, ↓reduceIte, Nat.reduceEqDiff, v2, v3, v4, v6, v7, v8, v9, v10] <;> rfl) rfl (sameR_fin ho (V.mk ka na la) _ W21 (V.mk kb nb lb) _ _ (VA.mk ka na la _ (ha.ext E21)) (VA.mk kb nb lb _ (hb.ext E21))) rfl ((wanted_of (b := false) rfl rfl rfl (by simp only [val_set, ↓reduceIte, Nat.reduceEqDiff, v2, v3, v4, v6, v7, v8, v9, v10] <;> rfl)).trans rfl) ?_; rintro _ H22 ⟨rfl, X22⟩
        have W22 := X22.wf; have E22 := E21.trans X22
        have A1 := X22.keep _ _ A1
        have A2 := X22.keep _ _ A2
        have A10 := X22.keep _ _ A10
        have A13 := X22.keep _ _ A13
        have n22 := X22.n
        refine ⟨re_forcedL (M := 1048575) (I := 19) rfl rfl (by decide) (re_forcedL (M := 1048575) (I := 18) rfl rfl (by decide) (re_forcedL (M := 1048575) (I := 16) rfl rfl (by decide) (re_forcedL (M := 1048575) (I := 15) rfl rfl (by decide) (re_forcedL (M := 1048575) (I := 14) rfl rfl (by decide) (re_forcedL (M := 1048575) (I := 13) rfl rfl (by decide) (re_forcedL (M := 1048575) (I := 12) rfl rfl (by decide) (re_forcedL (M := 1048575) (I := 10) rfl rfl (by decide) (re_forcedL (M := 1048575) (I := 9) rfl rfl (by decide) (re_forcedL (M := 1048575) (I := 7) rfl rfl (by decide) (re_forcedL (M := 1048575) (I := 6) rfl rfl (by decide) (re_forcedL (M := 1048575) (I := 5) rfl rfl (by decide) (re_forcedL (M := 1048575) (I := 4) rfl rfl (by decide) (re_forcedL (M := 1048575) (I := 2) rfl rfl (by decide) (re_forcedL (M := 1048575) (I := 0) rfl rfl (by decide) (re_nil))))))))))))))), ?_⟩
        refine d_rd rfl (r_neqB (b := eqV (V.mk ka na la) (V.mk kb nb lb)) Try.underlying4 (by simp only [ev, envOf, val_set, ofValue, ofCell, ↓reduceIte, Nat.reduceEqDiff, v2, v3, v4, v6, v7, v8, v9, v10] <;> rfl) (by simp only [ev, envOf, val_set, ofValue, ofCell, ↓reduceIte, Nat.reduceEqDiff, v2, v3, v4, v6, v7, v8, v9, v10] <;> rfl) (r_neB Try.underlying4 (by simp only [ev, envOf, val_set, ofValue, ofCell, ↓reduceIte, Nat.reduceEqDiff, v2, v3, v4, v6, v7, v8, v9, v10] <;> rfl) (by simp only [ev, envOf, val_set, ofValue, ofCell, ↓reduceIte, Nat.reduceEqDiff, v2, v3, v4, v6, v7, v8, v9, v10] <;> rfl))) rfl ((wanted_of (b := false) rfl rfl rfl (by simp only [val_set, ↓reduceIte, Nat.reduceEqDiff, v2, v3, v4, v6, v7, v8, v9, v10] <;> rfl)).trans rfl) ?_
        refine d_rd rfl (r_pick (t := false) (by simp only [ev, envOf, val_set, ofValue, ofCell, ↓reduceIte, Nat.reduceEqDiff, v2, v3, v4, v6, v7, v8, v9, v10] <;> rfl) (fun h => by cases h) (fun _ => (by simp only [ev, envOf, val_set, ofValue, ofCell, ↓reduceIte, Nat.reduceEqDiff, v2, v3, v4, v6, v7, v8, v9, v10] <;> rfl))) rfl rfl ?_
        refine d_rd rfl (r_move (by simp only [ev, envOf, val_set, ofValue, ofCell, ↓reduceIte, Nat.reduceEqDiff, v2, v3, v4, v6, v7, v8, v9, v10] <;> rfl)) rfl rfl ?_
        refine d_rd rfl (r_loadN (cs := [.int .i64 (ka), .int .i64 (na), sx]) Ty.agg24 Ty.csz24 (by simp only [ev, envOf, val_set, ofValue, ofCell, ↓reduceIte, Nat.reduceEqDiff, v2, v3, v4, v6, v7, v8, v9, v10] <;> rfl) (read_mt A10 (Nat.le_of_ble_eq_true rfl))) rfl ((wanted_of (b := false) rfl rfl rfl (by simp only [val_set, ↓reduceIte, Nat.reduceEqDiff, v2, v3, v4, v6, v7, v8, v9, v10] <;> rfl)).trans rfl) ?_
        refine d_rd rfl (r_loadN (cs := [.int .i64 (ka), .int .i64 (na), sx]) Ty.agg24 Ty.csz24 (by simp only [ev, envOf, val_set, ofValue, ofCell, ↓reduceIte, Nat.reduceEqDiff, v2, v3, v4, v6, v7, v8, v9, v10] <;> rfl) (read_mt A10 (Nat.le_of_ble_eq_true rfl))) rfl ((wanted_of (b := false) rfl rfl rfl (by simp only [val_set, ↓reduceIte, Nat.reduceEqDiff, v2, v3, v4, v6, v7, v8, v9, v10] <;> rfl)).trans rfl) ?_
        refine d_cl rfl rfl rfl (by simp only [evs, ev, envOf, val_set, ofValue, ofCell, ↓reduceIte, Nat.reduceEqDiff, v2, v3, v4, v6, v7, v8, v9, v10] <;> rfl) rfl (sameV_self ho W22 (VA.mk ka na la _ (hXs.ext (EL.trans ((((((((Ext.refl W14).trans X16).trans X17).trans X18).trans X19).trans X20).trans X21).trans X22)))) (VA.mk ka na la _ (hXs.ext (EL.trans ((((((((Ext.refl W14).trans X16).trans X17).trans X18).trans X19).trans X20).trans X21).trans X22))))) rfl ((wanted_of (b := false) rfl rfl rfl (by simp only [val_set, ↓reduceIte, Nat.reduceEqDiff, v2, v3, v4, v6, v7, v8, v9, v10] <;> rfl)).trans rfl) ?_; rintro _ H23 ⟨rfl, X23⟩
        have W23 := X23.wf; have E23 := E22.trans X23
        have A1 := X23.keep _ _ A1
        have A2 := X23.keep _ _ A2
        have A10 := X23.keep _ _ A10
        have A13 := X23.keep _ _ A13
        have n23 := X23.n
        refine ⟨re_forcedL (M := 67108863) (I := 25) rfl rfl (by decide) (re_forcedL (M := 67108863) (I := 24) rfl rfl (by decide) (re_forcedL (M := 67108863) (I := 23) rfl rfl (by decide) (re_forcedL (M := 67108863) (I := 22) rfl rfl (by decide) (re_forcedL (M := 67108863) (I := 21) rfl rfl (by decide) (re_forcedL (M := 67108863) (I := 19) rfl rfl (by decide) (re_forcedL (M := 67108863) (I := 18) rfl rfl (by decide) (re_forcedL (M := 67108863) (I := 16) rfl rfl (by decide) (re_forcedL (M := 67108863) (I := 15) rfl rfl (by decide) (re_forcedL (M := 67108863) (I := 14) rfl rfl (by decide) (re_forcedL (M := 67108863) (I := 13) rfl rfl (by decide) (re_forcedL (M := 67108863) (I := 12) rfl rfl (by decide) (re_forcedL (M := 67108863) (I := 10) rfl rfl (by decide) (re_forcedL (M := 67108863) (I := 9) rfl rfl (by decide) (re_forcedL (M := 67108863) (I := 7) rfl rfl (by decide) (re_forcedL (M := 67108863) (I := 6) rfl rfl (by decide) (re_forcedL (M := 67108863) (I := 5) rfl rfl (by decide) (re_forcedL (M := 67108863) (I := 4) rfl rfl (by decide) (re_forcedL (M := 67108863) (I := 2) rfl rfl (by decide) (re_forcedL (M := 67108863) (I := 0) rfl rfl (by decide) (re_nil)))))))))))))))))))), ?_⟩
        refine d_rd rfl (r_not (by simp only [ev, envOf, val_set, ofValue, ofCell, ↓reduceIte, Nat.reduceEqDiff, v2, v3, v4, v6, v7, v8, v9, v10] <;> rfl)) rfl ((wanted_of (b := false) rfl rfl rfl (by simp only [val_set, ↓reduceIte, Nat.reduceEqDiff, v2, v3, v4, v6, v7, v8, v9, v10] <;> rfl)).trans rfl) ?_
        refine d_rd rfl (r_pick (t := false) (by simp only [ev, envOf, val_set, ofValue, ofCell, ↓reduceIte, Nat.reduceEqDiff, v2, v3, v4, v6, v7, v8, v9, v10] <;> rfl) (fun h => by cases h) (fun _ => (by simp only [ev, envOf, val_set, ofValue, ofCell, ↓reduceIte, Nat.reduceEqDiff, v2, v3, v4, v6, v7, v8, v9, v10] <;> rfl))) rfl rfl ?_
        refine d_rd rfl (r_move (by simp only [ev, envOf, val_set, ofValue, ofCell, ↓reduceIte, Nat.reduceEqDiff, v2, v3, v4, v6, v7, v8, v9, v10] <;> rfl)) rfl rfl ?_
        refine d_rd rfl (r_move (by simp only [ev, envOf, val_set, ofValue, ofCell, ↓reduceIte, Nat.reduceEqDiff, v2, v3, v4, v6, v7, v8, v9, v10] <;> rfl)) rfl ((wanted_of (b := false) rfl rfl rfl (by simp only [val_set, ↓reduceIte, Nat.reduceEqDiff, v2, v3, v4, v6, v7, v8, v9, v10] <;> rfl)).trans rfl) ?_
        refine d_rd rfl (r_loadN (cs := [.int .i64 (ka), .int .i64 (na), sa]) Ty.agg24 Ty.csz24 (by simp only [ev, envOf, val_set, ofValue, ofCell, ↓reduceIte, Nat.reduceEqDiff, v2, v3, v4, v6, v7, v8, v9, v10] <;> rfl) (read_mt A1 (Nat.le_of_ble_eq_true rfl))) rfl ((wanted_of (b := false) rfl rfl rfl (by simp only [val_set, ↓reduceIte, Nat.reduceEqDiff, v2, v3, v4, v6, v7, v8, v9, v10] <;> rfl)).trans rfl) ?_
        refine d_cl rfl rfl rfl (by simp only [evs, ev, envOf, val_set, ofValue, ofCell, ↓reduceIte, Nat.reduceEqDiff, v2, v3, v4, v6, v7, v8, v9, v10] <;> rfl) rfl (chansR_fin ho W23 ka na la _ (ha.ext E23) (by omega)) rfl ((wanted_of (b := false) rfl rfl rfl (by simp only [val_set, ↓reduceIte, Nat.reduceEqDiff, v2, v3, v4, v6, v7, v8, v9, v10] <;> rfl)).trans rfl) ?_; rintro _ H24 ⟨l2, s2, b2, f2, rfl, O2, N2, R2, M2, L2, X24⟩
        have W24 := X24.wf; have E24 := E23.trans X24
        have A1 := X24.keep _ _ A1
        have A2 := X24.keep _ _ A2
        have A10 := X24.keep _ _ A10
        have A13 := X24.keep _ _ A13
        have n24 := X24.n
        refine ⟨re_forcedL (M := 3221225471) (I := 31) rfl rfl (by decide) (re_same (r_move (by simp only [ev, envOf, val_set, ofValue, ofCell, ↓reduceIte, Nat.reduceEqDiff, v2, v3, v4, v6, v7, v8, v9, v10] <;> rfl)) (re_forcedL (M := 3221225471) (I := 29) rfl rfl (by decide) (re_forcedL (M := 3221225471) (I := 28) rfl rfl (by decide) (re_forcedL (M := 3221225471) (I := 27) rfl rfl (by decide) (re_forcedL (M := 3221225471) (I := 25) rfl rfl (by decide) (re_forcedL (M := 3221225471) (I := 24) rfl rfl (by decide) (re_forcedL (M := 3221225471) (I := 23) rfl rfl (by decide) (re_forcedL (M := 3221225471) (I := 22) rfl rfl (by decide) (re_forcedL (M := 3221225471) (I := 21) rfl rfl (by decide) (re_forcedL (M := 3221225471) (I := 19) rfl rfl (by decide) (re_forcedL (M := 3221225471) (I := 18) rfl rfl (by decide) (re_forcedL (M := 3221225471) (I := 16) rfl rfl (by decide) (re_forcedL (M := 3221225471) (I := 15) rfl rfl (by decide) (re_forcedL (M := 3221225471) (I := 14) rfl rfl (by decide) (re_forcedL (M := 3221225471) (I := 13) rfl rfl (by decide) (re_forcedL (M := 3221225471) (I := 12) rfl rfl (by decide) (re_forcedL (M := 3221225471) (I := 10) rfl rfl (by decide) (re_forcedL (M := 3221225471) (I := 9) rfl rfl (by decide) (re_forcedL (M := 3221225471) (I := 7) rfl rfl (by decide) (re_forcedL (M := 3221225471) (I := 6) rfl rfl (by decide) (re_forcedL (M := 3221225471) (I := 5) rfl rfl (by decide) (re_forcedL (M := 3221225471) (I := 4) rfl rfl (by decide) (re_forcedL (M := 3221225471) (I := 2) rfl rfl (by decide) (re_forcedL (M := 3221225471) (I := 0) rfl rfl (by decide) (re_nil))))))))))))))))))))))))), ?_⟩
        refine d_cl rfl rfl rfl (by simp only [evs, ev, envOf, val_set, ofValue, ofCell, ↓reduceIte, Nat.reduceEqDiff, v2, v3, v4, v6, v7, v8, v9, v10] <;> rfl) rfl (numbers_same ho W24 (hSI.ext (((((((((Ext.refl W16).trans X17).trans X18).trans X19).trans X20).trans X21).trans X22).trans X23).trans X24)) (si_own O2 (by omega)) (rise_ext hRi R2 (fun q => (hmq q).trans (M2 q).symm))) rfl ((wanted_of (b := false) rfl rfl rfl (by simp only [val_set, ↓reduceIte, Nat.reduceEqDiff, v2, v3, v4, v6, v7, v8, v9, v10] <;> rfl)).trans rfl) ?_; rintro _ H25 ⟨rfl, X25⟩
        have W25 := X25.wf; have E25 := E24.trans X25
        have A1 := X25.keep _ _ A1
        have A2 := X25.keep _ _ A2
        have A10 := X25.keep _ _ A10
        have A13 := X25.keep _ _ A13
        have n25 := X25.n
        refine ⟨re_forcedL (M := 8589934591) (I := 31) rfl rfl (by decide) (re_forcedL (M := 8589934591) (I := 30) rfl rfl (by decide) (re_forcedL (M := 8589934591) (I := 29) rfl rfl (by decide) (re_forcedL (M := 8589934591) (I := 28) rfl rfl (by decide) (re_forcedL (M := 8589934591) (I := 27) rfl rfl (by decide) (re_forcedL (M := 8589934591) (I := 25) rfl rfl (by decide) (re_forcedL (M := 8589934591) (I := 24) rfl rfl (by decide) (re_forcedL (M := 8589934591) (I := 23) rfl rfl (by decide) (re_forcedL (M := 8589934591) (I := 22) rfl rfl (by decide) (re_forcedL (M := 8589934591) (I := 21) rfl rfl (by decide) (re_forcedL (M := 8589934591) (I := 19) rfl rfl (by decide) (re_forcedL (M := 8589934591) (I := 18) rfl rfl (by decide) (re_forcedL (M := 8589934591) (I := 16) rfl rfl (by decide) (re_forcedL (M := 8589934591) (I := 15) rfl rfl (by decide) (re_forcedL (M := 8589934591) (I := 14) rfl rfl (by decide) (re_forcedL (M := 8589934591) (I := 13) rfl rfl (by decide) (re_forcedL (M := 8589934591) (I := 12) rfl rfl (by decide) (re_forcedL (M := 8589934591) (I := 10) rfl rfl (by decide) (re_forcedL (M := 8589934591) (I := 9) rfl rfl (by decide) (re_forcedL (M := 8589934591) (I := 7) rfl rfl (by decide) (re_forcedL (M := 8589934591) (I := 6) rfl rfl (by decide) (re_forcedL (M := 8589934591) (I := 5) rfl rfl (by decide) (re_forcedL (M := 8589934591) (I := 4) rfl rfl (by decide) (re_forcedL (M := 8589934591) (I := 2) rfl rfl (by decide) (re_forcedL (M := 8589934591) (I := 0) rfl rfl (by decide) (re_nil))))))))))))))))))))))))), ?_⟩
        refine d_rd rfl (r_not (by simp only [ev, envOf, val_set, ofValue, ofCell, ↓reduceIte, Nat.reduceEqDiff, v2, v3, v4, v6, v7, v8, v9, v10] <;> rfl)) rfl ((wanted_of (b := false) rfl rfl rfl (by simp only [val_set, ↓reduceIte, Nat.reduceEqDiff, v2, v3, v4, v6, v7, v8, v9, v10] <;> rfl)).trans rfl) ?_
        refine d_rd rfl (r_pick (t := false) (by simp only [ev, envOf, val_set, ofValue, ofCell, ↓reduceIte, Nat.reduceEqDiff, v2, v3, v4, v6, v7, v8, v9, v10] <;> rfl) (fun h => by cases h) (fun _ => (by simp only [ev, envOf, val_set, ofValue, ofCell, ↓reduceIte, Nat.reduceEqDiff, v2, v3, v4, v6, v7, v8, v9, v10] <;> rfl))) rfl rfl ?_
        refine d_nil ?_
        refine w_cond (t := false) (by simp only [ev, envOf, val_set, ofValue, ofCell, ↓reduceIte, Nat.reduceEqDiff, v2, v3, v4, v6, v7, v8, v9, v10] <;> rfl) (fun h => by cases h) (fun _ => ?_)
        refine w_skip ?_
        refine w_seq ?_
        refine w_seq ?_
        refine w_region ?_
        have EL3 := (EL.trans (((((((((((Ext.refl W14).trans X16).trans X17).trans X18).trans X19).trans X20).trans X21).trans X22).trans X23).trans X24).trans X25))
        rcases hown with ⟨rfl, rfl⟩ | ⟨b, f, hl1, Ow, hNw⟩
        · skip
          refine o_rd (r_assign (by simp only [ev, envOf, val_set, ofValue, ofCell, ↓reduceIte, Nat.reduceEqDiff, v2, v3, v4, v6, v7, v8, v9, v10] <;> rfl)) rfl rfl ?_
          refine o_nil ?_
          refine w_block ?_
          refine w_loop (fun m s => ∃ (e : Env) (H : AH) (k : Nat), s = ⟨e, H, []⟩ ∧ e.val 2 = .int .i64 (mo) ∧ e.val 3 = .ptr (.mt (H0.n)) (0) ∧ e.val 4 = .ptr (.mt (H1.n)) (0) ∧ e.val 6 = .bool (false) ∧ e.val 7 = .bool (true) ∧ e.val 8 = .ptr (.mt (H8.n)) (0) ∧ e.val 9 = .ptr (.mt (H11.n)) (0) ∧ e.val 10 = .int .i64 (((i : Nat) : Int)) ∧ e.val 11 = .nils ∧ e.val 12 = .int .i64 (((k : Nat) : Int)) ∧ Wf H ∧ Ext H0 H ∧ H.at (H0.n) = some (.row [.int .i64 (ka), .int .i64 (na), sa] 24 false none) ∧ H.at (H1.n) = some (.row [.int .i64 (kb), .int .i64 (nb), sb] 24 false none) ∧ H.at (H8.n) = some (.row [.int .i64 (ka), .int .i64 (na), sx] 24 false none) ∧ H.at (H11.n) = some (.row [.int .i64 (kb), .int .i64 (nb), sy] 24 false none) ∧ (Ext H13 H) ∧ (k + m = 0)) (0) ⟨_, H25, 0, rfl, (by simp only [val_set, ↓reduceIte, Nat.reduceEqDiff, v2, v3, v4, v6, v7, v8, v9, v10] <;> rfl), (by simp only [val_set, ↓reduceIte, Nat.reduceEqDiff, v2, v3, v4, v6, v7, v8, v9, v10] <;> rfl), (by simp only [val_set, ↓reduceIte, Nat.reduceEqDiff, v2, v3, v4, v6, v7, v8, v9, v10] <;> rfl), (by simp only [val_set, ↓reduceIte, Nat.reduceEqDiff, v2, v3, v4, v6, v7, v8, v9, v10] <;> rfl), (by simp only [val_set, ↓reduceIte, Nat.reduceEqDiff, v2, v3, v4, v6, v7, v8, v9, v10] <;> rfl), (by simp only [val_set, ↓reduceIte, Nat.reduceEqDiff, v2, v3, v4, v6, v7, v8, v9, v10] <;> rfl), (by simp only [val_set, ↓reduceIte, Nat.reduceEqDiff, v2, v3, v4, v6, v7, v8, v9, v10] <;> rfl), (by simp only [val_set, ↓reduceIte, Nat.reduceEqDiff, v2, v3, v4, v6, v7, v8, v9, v10] <;> rfl), (by simp only [val_set, ↓reduceIte, Nat.reduceEqDiff, v2, v3, v4, v6, v7, v8, v9, v10] <;> rfl), (by simp only [val_set, ↓reduceIte, Nat.reduceEqDiff, v2, v3, v4, v6, v7, v8, v9, v10] <;> rfl), W25, E25, A1, A2, A10, A13, EL3, (by omega)⟩ ?_
          intro m s hi
          obtain ⟨e, H26, k, rfl, v2, v3, v4, v6, v7, v8, v9, v10, v11, v12, W26, E26, A1, A2, A10, A13, EL4, hik⟩ := hi
          have l26_0 := W26.lt A1
          have l26_1 := W26.lt A2
          have l26_2 := W26.lt A10
          have l26_3 := W26.lt A13
          refine w_seq ?_
          refine w_seq ?_
          refine w_region ?_
          refine o_rd (r_move (by simp only [ev, envOf, val_set, ofValue, ofCell, ↓reduceIte, Nat.reduceEqDiff, v2, v3, v4, v6, v7, v8, v9, v10, v11, v12] <;> rfl)) rfl rfl ?_
          refine o_rd (r_move (by simp only [ev, envOf, val_set, ofValue, ofCell, ↓reduceIte, Nat.reduceEqDiff, v2, v3, v4, v6, v7, v8, v9, v10, v11, v12] <;> rfl)) rfl rfl ?_
          refine o_rd (r_len (n := 0) Try.underlying28 (by simp only [ev, envOf, val_set, ofValue, ofCell, ↓reduceIte, Nat.reduceEqDiff, v2, v3, v4, v6, v7, v8, v9, v10, v11, v12] <;> rfl) rfl) rfl rfl ?_
          refine o_rd (r_lt (a := ((k : Nat) : Int)) (b := ((0 : Nat) : Int)) (by simp only [ev, envOf, val_set, ofValue, ofCell, ↓reduceIte, Nat.reduceEqDiff, v2, v3, v4, v6, v7, v8, v9, v10, v11, v12] <;> rfl) (by simp only [ev, envOf, val_set, ofValue, ofCell, ↓reduceIte, Nat.reduceEqDiff, v2, v3, v4, v6, v7, v8, v9, v10, v11, v12] <;> rfl)) rfl rfl ?_
          refine o_nil ?_
          refine w_cond (by simp only [ev, envOf, val_set, ofValue, ofCell, ↓reduceIte, Nat.reduceEqDiff, v2, v3, v4, v6, v7, v8, v9, v10, v11, v12] <;> rfl) (fun hc27 => ?_) (fun hc27 => ?_)
          · have hc27 := dec_t hc27
            refine w_skip ?_
            refine w_seq ?_
            refine w_block ?_
            refine w_region ?_
            exfalso; omega
          · have hc27 := dec_f hc27
            first | refine w_exit (blk_exit ?_) | refine w_exit (show (2 = 2 → _) ∧ (2 ≠ 2 → _) from ⟨fun _ => ?_, fun c => absurd rfl c⟩)
            refine w_seq ?_
            refine w_region ?_
            refine o_rd (r_move (by simp only [ev, envOf, val_set, ofValue, ofCell, ↓reduceIte, Nat.reduceEqDiff, v2, v3, v4, v6, v7, v8, v9, v10, v11, v12] <;> rfl)) rfl rfl ?_
            refine o_nw W26 (a_build2 Try.underlying28 Ty.csz3 Ty.zero3 rfl (by simp only [ev, envOf, val_set, ofValue, ofCell, ↓reduceIte, Nat.reduceEqDiff, v2, v3, v4, v6, v7, v8, v9, v10, v11, v12] <;> rfl) rfl (by simp only [ev, envOf, val_set, ofValue, ofCell, ↓reduceIte, Nat.reduceEqDiff, v2, v3, v4, v6, v7, v8, v9, v10, v11, v12] <;> rfl) rfl) rfl rfl rfl (by simp) ?_; intro H28 n28 W28 X28 A28
            have E28 := E26.trans X28; have EL28 := EL4.trans X28
            have A1 := X28.keep _ _ A1
            have A2 := X28.keep _ _ A2
            have A10 := X28.keep _ _ A10
            have A13 := X28.keep _ _ A13
            refine o_apN W28 Try.underlying28 Try.underlying28 rfl Ty.csz3 Ty.byt3 Ty.zero3 rfl (by simp only [ev, envOf, val_set, ofValue, ofCell, ↓reduceIte, Nat.reduceEqDiff, v2, v3, v4, v6, v7, v8, v9, v10, v11, v12] <;> rfl) (by simp only [ev, envOf, val_set, ofValue, ofCell, ↓reduceIte, Nat.reduceEqDiff, v2, v3, v4, v6, v7, v8, v9, v10, v11, v12] <;> rfl) (src_fresh (n := 2) A28 rfl) rfl rfl (by decide) (by decide) rfl rfl ?_; intro sz H29 Oz W29 n29 X29
            have E29 := E28.trans X29
            have EL5 := EL28.trans X29
            have A1 := X29.keep _ _ A1
            have A2 := X29.keep _ _ A2
            have A10 := X29.keep _ _ A10
            have A13 := X29.keep _ _ A13
            refine o_rd (r_assign (by simp only [ev, envOf, val_set, ofValue, ofCell, ↓reduceIte, Nat.reduceEqDiff, v2, v3, v4, v6, v7, v8, v9, v10, v11, v12] <;> rfl)) rfl rfl ?_
            refine o_nil ?_
            refine w_seq ?_
            refine w_region ?_
            refine o_rd (r_move (by simp only [ev, envOf, val_set, ofValue, ofCell, ↓reduceIte, Nat.reduceEqDiff, v2, v3, v4, v6, v7, v8, v9, v10, v11, v12] <;> rfl)) rfl rfl ?_
            refine o_rd (r_len (n := 2) Try.underlying28 (by simp only [ev, envOf, val_set, ofValue, ofCell, ↓reduceIte, Nat.reduceEqDiff, v2, v3, v4, v6, v7, v8, v9, v10, v11, v12] <;> rfl) (own_lenOf Oz)) rfl rfl ?_
            refine o_rd (r_lt (a := ((2 : Nat) : Int)) (b := 2) (by simp only [ev, envOf, val_set, ofValue, ofCell, ↓reduceIte, Nat.reduceEqDiff, v2, v3, v4, v6, v7, v8, v9, v10, v11, v12] <;> rfl) (by simp only [ev, envOf, val_set, ofValue, ofCell, ↓reduceIte, Nat.reduceEqDiff, v2, v3, v4, v6, v7, v8, v9, v10, v11, v12] <;> rfl)) rfl rfl ?_
            refine o_nil ?_
            refine w_cond (by simp only [ev, envOf, val_set, ofValue, ofCell, ↓reduceIte, Nat.reduceEqDiff, v2, v3, v4, v6, v7, v8, v9, v10, v11, v12] <;> rfl) (fun hc30 => ?_) (fun hc30 => ?_)
            · have hc30 := dec_t hc30
              refine w_seq ?_
              refine w_region ?_
              refine o_rd (r_assign (by simp only [ev, envOf, val_set, ofValue, ofCell, ↓reduceIte, Nat.reduceEqDiff, v2, v3, v4, v6, v7, v8, v9, v10, v11, v12] <;> rfl)) rfl rfl ?_
              refine o_nil ?_
              refine w_ret ⟨.inr rfl, rfl, .bool (false), (show resultA Try.prog [.tmp 6] _ = _ by simp only [resultA, resultsA, envOf, val_set, ↓reduceIte, Nat.reduceEqDiff, Option.map_some, v2, v3, v4, v6, v7, v8, v9, v10, v11, v12] <;> rfl), ?_⟩
              try dsimp only
              exact ⟨by first | rfl | (exfalso; omega), E29⟩
            · have hc30 := dec_f hc30
              refine w_skip ?_
              refine w_region ?_
              refine o_rd (r_move (by simp only [ev, envOf, val_set, ofValue, ofCell, ↓reduceIte, Nat.reduceEqDiff, v2, v3, v4, v6, v7, v8, v9, v10, v11, v12] <;> rfl)) rfl rfl ?_
              refine o_rd (r_addE (a := ((i : Nat) : Int)) (b := 1) (c := ((i + 1 : Nat) : Int)) (by simp only [ev, envOf, val_set, ofValue, ofCell, ↓reduceIte, Nat.reduceEqDiff, v2, v3, v4, v6, v7, v8, v9, v10, v11, v12] <;> rfl) (by simp only [ev, envOf, val_set, ofValue, ofCell, ↓reduceIte, Nat.reduceEqDiff, v2, v3, v4, v6, v7, v8, v9, v10, v11, v12] <;> rfl) (by omega) (by omega) (by omega)) rfl rfl ?_
              refine o_rd (r_assign (by simp only [ev, envOf, val_set, ofValue, ofCell, ↓reduceIte, Nat.reduceEqDiff, v2, v3, v4, v6, v7, v8, v9, v10, v11, v12] <;> rfl)) rfl rfl ?_
              refine o_nil ?_
              exact ⟨2 - (i + 1), (by omega), _, H29, i + 1, rfl, (by simp only [val_set, ↓reduceIte, Nat.reduceEqDiff, v2, v3, v4, v6, v7, v8, v9, v10, v11, v12] <;> rfl), (by simp only [val_set, ↓reduceIte, Nat.reduceEqDiff, v2, v3, v4, v6, v7, v8, v9, v10, v11, v12] <;> rfl), (by simp only [val_set, ↓reduceIte, Nat.reduceEqDiff, v2, v3, v4, v6, v7, v8, v9, v10, v11, v12] <;> rfl), (by simp only [val_set, ↓reduceIte, Nat.reduceEqDiff, v2, v3, v4, v6, v7, v8, v9, v10, v11, v12] <;> rfl), (by simp only [val_set, ↓reduceIte, Nat.reduceEqDiff, v2, v3, v4, v6, v7, v8, v9, v10, v11, v12] <;> rfl), (by simp only [val_set, ↓reduceIte, Nat.reduceEqDiff, v2, v3, v4, v6, v7, v8, v9, v10, v11, v12] <;> rfl), (by simp only [val_set, ↓reduceIte, Nat.reduceEqDiff, v2, v3, v4, v6, v7, v8, v9, v10, v11, v12] <;> rfl), (by simp only [val_set, ↓reduceIte, Nat.reduceEqDiff, v2, v3, v4, v6, v7, v8, v9, v10, v11, v12] <;> rfl), W29, E29, A1, A2, A10, A13, EL5, (by omega)⟩
        · skip
          replace Ow := Ow.ext ((((((((((Ext.refl W16).trans X17).trans X18).trans X19).trans X20).trans X21).trans X22).trans X23).trans X24).trans X25)
          obtain ⟨oo, co, rfl, hco, -⟩ := Ow.read
          have hNw0 : New H0 b f := ⟨by have := hNw.1; omega, fun g hg => by have := hNw.2 g hg; omega⟩
          have hNwL : New H13 b f := ⟨by have := hNw.1; omega, fun g hg => by have := hNw.2 g hg; omega⟩
          have hNb := hNw.1
          refine o_rd (r_assign (by simp only [ev, envOf, val_set, ofValue, ofCell, ↓reduceIte, Nat.reduceEqDiff, v2, v3, v4, v6, v7, v8, v9, v10] <;> rfl)) rfl rfl ?_
          refine o_nil ?_
          refine w_block ?_
          refine w_loop (fun m s => ∃ (e : Env) (H : AH) (k : Nat) (cw : List AV), s = ⟨e, H, []⟩ ∧ e.val 2 = .int .i64 (mo) ∧ e.val 3 = .ptr (.mt (H0.n)) (0) ∧ e.val 4 = .ptr (.mt (H1.n)) (0) ∧ e.val 6 = .bool (false) ∧ e.val 7 = .bool (true) ∧ e.val 8 = .ptr (.mt (H8.n)) (0) ∧ e.val 9 = .ptr (.mt (H11.n)) (0) ∧ e.val 10 = .int .i64 (((i : Nat) : Int)) ∧ e.val 11 = .sl (.mt b) (oo) (l.length) co ∧ e.val 12 = .int .i64 (((k : Nat) : Int)) ∧ Wf H ∧ Ext H0 H ∧ H.at (H0.n) = some (.row [.int .i64 (ka), .int .i64 (na), sa] 24 false none) ∧ H.at (H1.n) = some (.row [.int .i64 (kb), .int .i64 (nb), sb] 24 false none) ∧ H.at (H8.n) = some (.row [.int .i64 (ka), .int .i64 (na), sx] 24 false none) ∧ H.at (H11.n) = some (.row [.int .i64 (kb), .int .i64 (nb), sy] 24 false none) ∧ (Ext H13 H) ∧ (k + m = l.length) ∧ (Own H 3 1 (.sl (.mt b) oo l.length co) l.length cw b f)) (l.length) ⟨_, H25, 0, _, rfl, (by simp only [val_set, ↓reduceIte, Nat.reduceEqDiff, v2, v3, v4, v6, v7, v8, v9, v10] <;> rfl), (by simp only [val_set, ↓reduceIte, Nat.reduceEqDiff, v2, v3, v4, v6, v7, v8, v9, v10] <;> rfl), (by simp only [val_set, ↓reduceIte, Nat.reduceEqDiff, v2, v3, v4, v6, v7, v8, v9, v10] <;> rfl), (by simp only [val_set, ↓reduceIte, Nat.reduceEqDiff, v2, v3, v4, v6, v7, v8, v9, v10] <;> rfl), (by simp only [val_set, ↓reduceIte, Nat.reduceEqDiff, v2, v3, v4, v6, v7, v8, v9, v10] <;> rfl), (by simp only [val_set, ↓reduceIte, Nat.reduceEqDiff, v2, v3, v4, v6, v7, v8, v9, v10] <;> rfl), (by simp only [val_set, ↓reduceIte, Nat.reduceEqDiff, v2, v3, v4, v6, v7, v8, v9, v10] <;> rfl), (by simp only [val_set, ↓reduceIte, Nat.reduceEqDiff, v2, v3, v4, v6, v7, v8, v9, v10] <;> rfl), (by simp only [val_set, ↓reduceIte, Nat.reduceEqDiff, v2, v3, v4, v6, v7, v8, v9, v10] <;> rfl), (by simp only [val_set, ↓reduceIte, Nat.reduceEqDiff, v2, v3, v4, v6, v7, v8, v9, v10] <;> rfl), W25, E25, A1, A2, A10, A13, EL3, (by omega), Ow⟩ ?_
          intro m s hi
          obtain ⟨e, H31, k, cw, rfl, v2, v3, v4, v6, v7, v8, v9, v10, v11, v12, W31, E31, A1, A2, A10, A13, EL4, hik, Oi⟩ := hi
          have l31_0 := W31.lt A1
          have l31_1 := W31.lt A2
          have l31_2 := W31.lt A10
          have l31_3 := W31.lt A13
          refine w_seq ?_
          refine w_seq ?_
          refine w_region ?_
          refine o_rd (r_move (by simp only [ev, envOf, val_set, ofValue, ofCell, ↓reduceIte, Nat.reduceEqDiff, v2, v3, v4, v6, v7, v8, v9, v10, v11, v12] <;> rfl)) rfl rfl ?_
          refine o_rd (r_move (by simp only [ev, envOf, val_set, ofValue, ofCell, ↓reduceIte, Nat.reduceEqDiff, v2, v3, v4, v6, v7, v8, v9, v10, v11, v12] <;> rfl)) rfl rfl ?_
          refine o_rd (r_len (n := l.length) Try.underlying28 (by simp only [ev, envOf, val_set, ofValue, ofCell, ↓reduceIte, Nat.reduceEqDiff, v2, v3, v4, v6, v7, v8, v9, v10, v11, v12] <;> rfl) rfl) rfl rfl ?_
          refine o_rd (r_lt (a := ((k : Nat) : Int)) (b := ((l.length : Nat) : Int)) (by simp only [ev, envOf, val_set, ofValue, ofCell, ↓reduceIte, Nat.reduceEqDiff, v2, v3, v4, v6, v7, v8, v9, v10, v11, v12] <;> rfl) (by simp only [ev, envOf, val_set, ofValue, ofCell, ↓reduceIte, Nat.reduceEqDiff, v2, v3, v4, v6, v7, v8, v9, v10, v11, v12] <;> rfl)) rfl rfl ?_
          refine o_nil ?_
          refine w_cond (by simp only [ev, envOf, val_set, ofValue, ofCell, ↓reduceIte, Nat.reduceEqDiff, v2, v3, v4, v6, v7, v8, v9, v10, v11, v12] <;> rfl) (fun hc32 => ?_) (fun hc32 => ?_)
          · have hc32 := dec_t hc32
            refine w_skip ?_
            refine w_seq ?_
            refine w_block ?_
            refine w_region ?_
            refine o_rd (r_move (by simp only [ev, envOf, val_set, ofValue, ofCell, ↓reduceIte, Nat.reduceEqDiff, v2, v3, v4, v6, v7, v8, v9, v10, v11, v12] <;> rfl)) rfl rfl ?_
            refine o_rd (r_move (by simp only [ev, envOf, val_set, ofValue, ofCell, ↓reduceIte, Nat.reduceEqDiff, v2, v3, v4, v6, v7, v8, v9, v10, v11, v12] <;> rfl)) rfl rfl ?_
            have hk1 : k < l.length := by omega
            refine o_rd (r_indexAddr Try.underlying28 Ty.csz3 (by simp only [ev, envOf, val_set, ofValue, ofCell, ↓reduceIte, Nat.reduceEqDiff, v2, v3, v4, v6, v7, v8, v9, v10, v11, v12] <;> rfl) (by simp only [ev, envOf, val_set, ofValue, ofCell, ↓reduceIte, Nat.reduceEqDiff, v2, v3, v4, v6, v7, v8, v9, v10, v11, v12] <;> rfl) hk1) rfl rfl ?_
            refine o_stO (v := .int .i64 (-5)) W31 Oi hk1 (by simp only [ev, envOf, val_set, ofValue, ofCell, ↓reduceIte, Nat.reduceEqDiff, v2, v3, v4, v6, v7, v8, v9, v10, v11, v12] <;> rfl) (by simp only [ev, envOf, val_set, ofValue, ofCell, ↓reduceIte, Nat.reduceEqDiff, v2, v3, v4, v6, v7, v8, v9, v10, v11, v12] <;> rfl) Ty.csz3 rfl rfl rfl rfl ?_; intro H33 cs33 n33 W33 O33 K33
            have E33 := Ext.keeps W0 E31 hNw0 K33 (by omega) W33
            have EL33 := Ext.keeps W13 EL4 hNwL K33 (by omega) W33
            have A1 := K33.at A1 (by omega) rfl
            have A2 := K33.at A2 (by omega) rfl
            have A10 := K33.at A10 (by omega) rfl
            have A13 := K33.at A13 (by omega) rfl
            refine o_nil ?_
            refine w_region ?_
            refine o_rd (r_move (by simp only [ev, envOf, val_set, ofValue, ofCell, ↓reduceIte, Nat.reduceEqDiff, v2, v3, v4, v6, v7, v8, v9, v10, v11, v12] <;> rfl)) rfl rfl ?_
            refine o_rd (r_addE (a := ((k : Nat) : Int)) (b := 1) (c := ((k + 1 : Nat) : Int)) (by simp only [ev, envOf, val_set, ofValue, ofCell, ↓reduceIte, Nat.reduceEqDiff, v2, v3, v4, v6, v7, v8, v9, v10, v11, v12] <;> rfl) (by simp only [ev, envOf, val_set, ofValue, ofCell, ↓reduceIte, Nat.reduceEqDiff, v2, v3, v4, v6, v7, v8, v9, v10, v11, v12] <;> rfl) (by omega) (by omega) (by omega)) rfl rfl ?_
            refine o_rd (r_assign (by simp only [ev, envOf, val_set, ofValue, ofCell, ↓reduceIte, Nat.reduceEqDiff, v2, v3, v4, v6, v7, v8, v9, v10, v11, v12] <;> rfl)) rfl rfl ?_
            refine o_nil ?_
            exact ⟨m - 1, (by omega), _, H33, k + 1, cs33, rfl, (by simp only [val_set, ↓reduceIte, Nat.reduceEqDiff, v2, v3, v4, v6, v7, v8, v9, v10, v11, v12] <;> rfl), (by simp only [val_set, ↓reduceIte, Nat.reduceEqDiff, v2, v3, v4, v6, v7, v8, v9, v10, v11, v12] <;> rfl), (by simp only [val_set, ↓reduceIte, Nat.reduceEqDiff, v2, v3, v4, v6, v7, v8, v9, v10, v11, v12] <;> rfl), (by simp only [val_set, ↓reduceIte, Nat.reduceEqDiff, v2, v3, v4, v6, v7, v8, v9, v10, v11, v12] <;> rfl), (by simp only [val_set, ↓reduceIte, Nat.reduceEqDiff, v2, v3, v4, v6, v7, v8, v9, v10, v11, v12] <;> rfl), (by simp only [val_set, ↓reduceIte, Nat.reduceEqDiff, v2, v3, v4, v6, v7, v8, v9, v10, v11, v12] <;> rfl), (by simp only [val_set, ↓reduceIte, Nat.reduceEqDiff, v2, v3, v4, v6, v7, v8, v9, v10, v11, v12] <;> rfl), (by simp only [val_set, ↓reduceIte, Nat.reduceEqDiff, v2, v3, v4, v6, v7, v8, v9, v10, v11, v12] <;> rfl), (by simp only [val_set, ↓reduceIte, Nat.reduceEqDiff, v2, v3, v4, v6, v7, v8, v9, v10, v11, v12] <;> rfl), (by simp only [val_set, ↓reduceIte, Nat.reduceEqDiff, v2, v3, v4, v6, v7, v8, v9, v10, v11, v12] <;> rfl), W33, E33, A1, A2, A10, A13, EL33, (by omega), O33⟩
          · have hc32 := dec_f hc32
            first | refine w_exit (blk_exit ?_) | refine w_exit (show (2 = 2 → _) ∧ (2 ≠ 2 → _) from ⟨fun _ => ?_, fun c => absurd rfl c⟩)
            refine w_seq ?_
            refine w_region ?_
            refine o_rd (r_move (by simp only [ev, envOf, val_set, ofValue, ofCell, ↓reduceIte, Nat.reduceEqDiff, v2, v3, v4, v6, v7, v8, v9, v10, v11, v12] <;> rfl)) rfl rfl ?_
            refine o_nw W31 (a_build2 Try.underlying28 Ty.csz3 Ty.zero3 rfl (by simp only [ev, envOf, val_set, ofValue, ofCell, ↓reduceIte, Nat.reduceEqDiff, v2, v3, v4, v6, v7, v8, v9, v10, v11, v12] <;> rfl) rfl (by simp only [ev, envOf, val_set, ofValue, ofCell, ↓reduceIte, Nat.reduceEqDiff, v2, v3, v4, v6, v7, v8, v9, v10, v11, v12] <;> rfl) rfl) rfl rfl rfl (by simp) ?_; intro H34 n34 W34 X34 A34
            have E34 := E31.trans X34; have EL34 := EL4.trans X34
            have A1 := X34.keep _ _ A1
            have A2 := X34.keep _ _ A2
            have A10 := X34.keep _ _ A10
            have A13 := X34.keep _ _ A13
            refine o_ap W34 Try.underlying28 Try.underlying28 rfl Ty.csz3 Ty.byt3 Ty.zero3 rfl (by simp only [ev, envOf, val_set, ofValue, ofCell, ↓reduceIte, Nat.reduceEqDiff, v2, v3, v4, v6, v7, v8, v9, v10, v11, v12] <;> rfl) (by simp only [ev, envOf, val_set, ofValue, ofCell, ↓reduceIte, Nat.reduceEqDiff, v2, v3, v4, v6, v7, v8, v9, v10, v11, v12] <;> rfl) (Oi.ext X34) (src_fresh (n := 2) A34 rfl) rfl rfl (by omega) rfl rfl ?_; intro sz H35 bq fq Oz W35 l35 u35 p35 q35 K35
            have E35 := Ext.keeps W0 E34 hNw0 K35 l35 W35
            have EL5 := Ext.keeps W13 EL34 hNwL K35 l35 W35
            have A1 := K35.at A1 (by omega) rfl
            have A2 := K35.at A2 (by omega) rfl
            have A10 := K35.at A10 (by omega) rfl
            have A13 := K35.at A13 (by omega) rfl
            refine o_rd (r_assign (by simp only [ev, envOf, val_set, ofValue, ofCell, ↓reduceIte, Nat.reduceEqDiff, v2, v3, v4, v6, v7, v8, v9, v10, v11, v12] <;> rfl)) rfl rfl ?_
            refine o_nil ?_
            refine w_seq ?_
            refine w_region ?_
            refine o_rd (r_move (by simp only [ev, envOf, val_set, ofValue, ofCell, ↓reduceIte, Nat.reduceEqDiff, v2, v3, v4, v6, v7, v8, v9, v10, v11, v12] <;> rfl)) rfl rfl ?_
            refine o_rd (r_len (n := l.length + 2) Try.underlying28 (by simp only [ev, envOf, val_set, ofValue, ofCell, ↓reduceIte, Nat.reduceEqDiff, v2, v3, v4, v6, v7, v8, v9, v10, v11, v12] <;> rfl) (own_lenOf Oz)) rfl rfl ?_
            refine o_rd (r_lt (a := ((l.length + 2 : Nat) : Int)) (b := 2) (by simp only [ev, envOf, val_set, ofValue, ofCell, ↓reduceIte, Nat.reduceEqDiff, v2, v3, v4, v6, v7, v8, v9, v10, v11, v12] <;> rfl) (by simp only [ev, envOf, val_set, ofValue, ofCell, ↓reduceIte, Nat.reduceEqDiff, v2, v3, v4, v6, v7, v8, v9, v10, v11, v12] <;> rfl)) rfl rfl ?_
            refine o_nil ?_
            refine w_cond (by simp only [ev, envOf, val_set, ofValue, ofCell, ↓reduceIte, Nat.reduceEqDiff, v2, v3, v4, v6, v7, v8, v9, v10, v11, v12] <;> rfl) (fun hc36 => ?_) (fun hc36 => ?_)
            · have hc36 := dec_t hc36
              refine w_seq ?_
              refine w_region ?_
              refine o_rd (r_assign (by simp only [ev, envOf, val_set, ofValue, ofCell, ↓reduceIte, Nat.reduceEqDiff, v2, v3, v4, v6, v7, v8, v9, v10, v11, v12] <;> rfl)) rfl rfl ?_
              refine o_nil ?_
              refine w_ret ⟨.inr rfl, rfl, .bool (false), (show resultA Try.prog [.tmp 6] _ = _ by simp only [resultA, resultsA, envOf, val_set, ↓reduceIte, Nat.reduceEqDiff, Option.map_some, v2, v3, v4, v6, v7, v8, v9, v10, v11, v12] <;> rfl), ?_⟩
              try dsimp only
              exact ⟨by first | rfl | (exfalso; omega), E35⟩
            · have hc36 := dec_f hc36
              refine w_skip ?_
              refine w_region ?_
              refine o_rd (r_move (by simp only [ev, envOf, val_set, ofValue, ofCell, ↓reduceIte, Nat.reduceEqDiff, v2, v3, v4, v6, v7, v8, v9, v10, v11, v12] <;> rfl)) rfl rfl ?_
              refine o_rd (r_addE (a := ((i : Nat) : Int)) (b := 1) (c := ((i + 1 : Nat) : Int)) (by simp only [ev, envOf, val_set, ofValue, ofCell, ↓reduceIte, Nat.reduceEqDiff, v2, v3, v4, v6, v7, v8, v9, v10, v11, v12] <;> rfl) (by simp only [ev, envOf, val_set, ofValue, ofCell, ↓reduceIte, Nat.reduceEqDiff, v2, v3, v4, v6, v7, v8, v9, v10, v11, v12] <;> rfl) (by omega) (by omega) (by omega)) rfl rfl ?_
              refine o_rd (r_assign (by simp only [ev, envOf, val_set, ofValue, ofCell, ↓reduceIte, Nat.reduceEqDiff, v2, v3, v4, v6, v7, v8, v9, v10, v11, v12] <;> rfl)) rfl rfl ?_
              refine o_nil ?_
              exact ⟨2 - (i + 1), (by omega), _, H35, i + 1, rfl, (by simp only [val_set, ↓reduceIte, Nat.reduceEqDiff, v2, v3, v4, v6, v7, v8, v9, v10, v11, v12] <;> rfl), (by simp only [val_set, ↓reduceIte, Nat.reduceEqDiff, v2, v3, v4, v6, v7, v8, v9, v10, v11, v12] <;> rfl), (by simp only [val_set, ↓reduceIte, Nat.reduceEqDiff, v2, v3, v4, v6, v7, v8, v9, v10, v11, v12] <;> rfl), (by simp only [val_set, ↓reduceIte, Nat.reduceEqDiff, v2, v3, v4, v6, v7, v8, v9, v10, v11, v12] <;> rfl), (by simp only [val_set, ↓reduceIte, Nat.reduceEqDiff, v2, v3, v4, v6, v7, v8, v9, v10, v11, v12] <;> rfl), (by simp only [val_set, ↓reduceIte, Nat.reduceEqDiff, v2, v3, v4, v6, v7, v8, v9, v10, v11, v12] <;> rfl), (by simp only [val_set, ↓reduceIte, Nat.reduceEqDiff, v2, v3, v4, v6, v7, v8, v9, v10, v11, v12] <;> rfl), (by simp only [val_set, ↓reduceIte, Nat.reduceEqDiff, v2, v3, v4, v6, v7, v8, v9, v10, v11, v12] <;> rfl), W35, E35, A1, A2, A10, A13, EL5, (by omega)⟩
      · have hc15 := dec_f hc15
        first | refine w_exit (blk_exit ?_) | refine w_exit (show (0 = 0 → _) ∧ (0 ≠ 0 → _) from ⟨fun _ => ?_, fun c => absurd rfl c⟩)
        refine w_seq ?_
        refine w_region ?_
        refine o_rd (r_loadN (cs := [.int .i64 (ka), .int .i64 (na), sx]) Ty.agg24 Ty.csz24 (by simp only [ev, envOf, val_set, ofValue, ofCell, ↓reduceIte, Nat.reduceEqDiff, v2, v3, v4, v6, v7, v8, v9, v10] <;> rfl) (read_mt A10 (Nat.le_of_ble_eq_true rfl))) rfl rfl ?_
        refine o_rd (r_loadN (cs := [.int .i64 (ka), .int .i64 (na), sa]) Ty.agg24 Ty.csz24 (by simp only [ev, envOf, val_set, ofValue, ofCell, ↓reduceIte, Nat.reduceEqDiff, v2, v3, v4, v6, v7, v8, v9, v10] <;> rfl) (read_mt A1 (Nat.le_of_ble_eq_true rfl))) rfl rfl ?_
        refine o_cl rfl rfl (by simp only [evs, ev, envOf, val_set, ofValue, ofCell, ↓reduceIte, Nat.reduceEqDiff, v2, v3, v4, v6, v7, v8, v9, v10] <;> rfl) rfl (sameX ho W14 (VA.mk ka na la _ (hXs.ext (EL.trans (Ext.refl W14)))) (VA.mk ka na la _ (ha.ext E14))) rfl rfl ?_; rintro _ H37 ⟨rfl, X37⟩
        have W37 := X37.wf; have E37 := E14.trans X37
        have A1 := X37.keep _ _ A1
        have A2 := X37.keep _ _ A2
        have A10 := X37.keep _ _ A10
        have A13 := X37.keep _ _ A13
        have n37 := X37.n
        refine o_rd (r_assign (by simp only [ev, envOf, val_set, ofValue, ofCell, ↓reduceIte, Nat.reduceEqDiff, v2, v3, v4, v6, v7, v8, v9, v10] <;> rfl)) rfl rfl ?_
        refine o_nil ?_
        refine w_seq ?_
        refine w_region ?_
        refine o_rd (r_loadN (cs := [.int .i64 (ka), .int .i64 (na), sx]) Ty.agg24 Ty.csz24 (by simp only [ev, envOf, val_set, ofValue, ofCell, ↓reduceIte, Nat.reduceEqDiff, v2, v3, v4, v6, v7, v8, v9, v10] <;> rfl) (read_mt A10 (Nat.le_of_ble_eq_true rfl))) rfl rfl ?_
        refine o_cl rfl rfl (by simp only [evs, ev, envOf, val_set, ofValue, ofCell, ↓reduceIte, Nat.reduceEqDiff, v2, v3, v4, v6, v7, v8, v9, v10] <;> rfl) rfl (spare_fin ho (V.mk ka na la) (by omega) _ W37 _ _ _ (hX.ext (EL.trans ((Ext.refl W14).trans X37)))) rfl rfl ?_; rintro _ H38 ⟨rfl, X38⟩
        have W38 := X38.wf; have E38 := E37.trans X38
        have A1 := X38.keep _ _ A1
        have A2 := X38.keep _ _ A2
        have A10 := X38.keep _ _ A10
        have A13 := X38.keep _ _ A13
        have n38 := X38.n
        refine o_rd (r_assign (by simp only [ev, envOf, val_set, ofValue, ofCell, ↓reduceIte, Nat.reduceEqDiff, v2, v3, v4, v6, v7, v8, v9, v10] <;> rfl)) rfl rfl ?_
        refine o_nil ?_
        refine w_seq ?_
        refine w_region ?_
        refine o_rd (r_move (by simp only [ev, envOf, val_set, ofValue, ofCell, ↓reduceIte, Nat.reduceEqDiff, v2, v3, v4, v6, v7, v8, v9, v10] <;> rfl)) rfl rfl ?_
        refine o_rd (r_move (by simp only [ev, envOf, val_set, ofValue, ofCell, ↓reduceIte, Nat.reduceEqDiff, v2, v3, v4, v6, v7, v8, v9, v10] <;> rfl)) rfl rfl ?_
        refine o_rd (r_move (by simp only [ev, envOf, val_set, ofValue, ofCell, ↓reduceIte, Nat.reduceEqDiff, v2, v3, v4, v6, v7, v8, v9, v10] <;> rfl)) rfl ((wanted_of (b := true) rfl rfl rfl (by simp only [val_set, ↓reduceIte, Nat.reduceEqDiff, v2, v3, v4, v6, v7, v8, v9, v10] <;> rfl)).trans rfl) ?_
        refine o_rd (r_pick (t := true) (by simp only [ev, envOf, val_set, ofValue, ofCell, ↓reduceIte, Nat.reduceEqDiff, v2, v3, v4, v6, v7, v8, v9, v10] <;> rfl) (fun _ => (by simp only [ev, envOf, val_set, ofValue, ofCell, ↓reduceIte, Nat.reduceEqDiff, v2, v3, v4, v6, v7, v8, v9, v10] <;> rfl)) (fun h => by cases h)) rfl rfl ?_
        refine o_rd (r_move (by simp only [ev, envOf, val_set, ofValue, ofCell, ↓reduceIte, Nat.reduceEqDiff, v2, v3, v4, v6, v7, v8, v9, v10] <;> rfl)) rfl rfl ?_
        refine o_rd (r_move (by simp only [ev, envOf, val_set, ofValue, ofCell, ↓reduceIte, Nat.reduceEqDiff, v2, v3, v4, v6, v7, v8, v9, v10] <;> rfl)) rfl ((wanted_of (b := true) rfl rfl rfl (by simp only [val_set, ↓reduceIte, Nat.reduceEqDiff, v2, v3, v4, v6, v7, v8, v9, v10] <;> rfl)).trans rfl) ?_
        refine o_rd (r_pick (t := true) (by simp only [ev, envOf, val_set, ofValue, ofCell, ↓reduceIte, Nat.reduceEqDiff, v2, v3, v4, v6, v7, v8, v9, v10] <;> rfl) (fun _ => (by simp only [ev, envOf, val_set, ofValue, ofCell, ↓reduceIte, Nat.reduceEqDiff, v2, v3, v4, v6, v7, v8, v9, v10] <;> rfl)) (fun h => by cases h)) rfl rfl ?_
        refine o_rd (r_assign (by simp only [ev, envOf, val_set, ofValue, ofCell, ↓reduceIte, Nat.reduceEqDiff, v2, v3, v4, v6, v7, v8, v9, v10] <;> rfl)) rfl rfl ?_
        refine o_nil ?_
        refine w_ret ⟨.inr rfl, rfl, .bool (true), (show resultA Try.prog [.tmp 6] _ = _ by simp only [resultA, resultsA, envOf, val_set, ↓reduceIte, Nat.reduceEqDiff, Option.map_some, v2, v3, v4, v6, v7, v8, v9, v10] <;> rfl), ?_⟩
        try dsimp only
        exact ⟨by first | rfl | (exfalso; omega), E38⟩
  · skip
    refine o_sk rfl ((wanted_of (b := true) rfl rfl rfl (by simp only [val_set, ↓reduceIte, Nat.reduceEqDiff] <;> rfl)).trans rfl) ?_
    refine o_sk rfl ((wanted_of (b := true) rfl rfl rfl (by simp only [val_set, ↓reduceIte, Nat.reduceEqDiff] <;> rfl)).trans rfl) ?_
    refine o_rd (r_pick (t := true) (by simp only [ev, envOf, val_set, ofValue, ofCell, ↓reduceIte, Nat.reduceEqDiff] <;> rfl) (fun _ => (by simp only [ev, envOf, val_set, ofValue, ofCell, ↓reduceIte, Nat.reduceEqDiff] <;> rfl)) (fun h => by cases h)) rfl rfl ?_
    refine o_nil ?_
    refine w_cond (t := true) (by simp only [ev, envOf, val_set, ofValue, ofCell, ↓reduceIte, Nat.reduceEqDiff] <;> rfl) (fun _ => ?_) (fun h => by cases h)
    refine w_seq ?_
    refine w_region ?_
    refine o_rd (r_move (by simp only [ev, envOf, val_set, ofValue, ofCell, ↓reduceIte, Nat.reduceEqDiff] <;> rfl)) rfl rfl ?_
    refine o_rd (r_assign (by simp only [ev, envOf, val_set, ofValue, ofCell, ↓reduceIte, Nat.reduceEqDiff] <;> rfl)) rfl rfl ?_
    refine o_nil ?_
    refine w_ret ⟨.inr rfl, rfl, .bool (true), (show resultA Try.prog [.tmp 6] _ = _ by simp only [resultA, resultsA, envOf, val_set, ↓reduceIte, Nat.reduceEqDiff, Option.map_some] <;> rfl), ?_⟩
    try dsimp only
    exact ⟨by first | rfl | (exfalso; omega), E4⟩
end Go.Proofs.Ytenfjdkeikjhlaa.Vs
