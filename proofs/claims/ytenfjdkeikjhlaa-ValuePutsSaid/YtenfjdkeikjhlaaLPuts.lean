/-
  ValuePuts of squintlaw07 answers true.
-/
import Derived.Test.YtenfjdkeikjhlaaPutsP
set_option autoImplicit false
set_option linter.unusedVariables false
set_option linter.unusedSimpArgs false
namespace Go.Proofs.Ytenfjdkeikjhlaa.Vs
open Go.VI Go.Proofs
variable {orc : CallF}
set_option maxRecDepth 100000 in
set_option maxHeartbeats 4000000 in
theorem puts_fin (ho : NoOrcBut [9] orc) {H0 : AH} (W0 : Wf H0) (hs : ∀ H, orc 9 [] H = some (.ret (.bool true), H)) (ka na kb nb : Int) (la lb : List V) (sa sb sp sq : AV) (ps qs : List Int) (ha : SA H0 la sa) (hb : SA H0 lb sb) (hP : SI H0 ps sp) (hQ : SI H0 qs sq) : Fin Try.prog orc 8 [.agg [.int .i64 (ka), .int .i64 (na), sa], sp, .agg [.int .i64 (kb), .int .i64 (nb), sb], sq] H0 (fun r H' => r = .bool true ∧ Ext H0 H') := by
  have E0 := Ext.refl W0
  have hpb := hP.bound; have hqb := hQ.bound
  refine fin_of Try.func8 rfl (by rw [Try.ntmps8]; simp) (ho _ rfl _ _) ?_
  rw [Try.ntmps8]
  refine w_seq ?_
  refine w_region ?_
  refine o_nw W0 (a_box (by simp only [ev, envOf, val_set, ofValue, ofCell, ↓reduceIte, Nat.reduceEqDiff] <;> rfl)) rfl rfl rfl (by simp) ?_; intro H1 n1 W1 X1 A1
  have A1 : H1.at H0.n = some (.row [.int .i64 (ka), .int .i64 (na), sa] 24 false none) := A1
  have E1 := E0.trans X1
  have g1 : H0.n ≤ H0.n := E0.n
  refine o_nw W1 (a_box (by simp only [ev, envOf, val_set, ofValue, ofCell, ↓reduceIte, Nat.reduceEqDiff] <;> rfl)) rfl rfl rfl (by simp) ?_; intro H2 n2 W2 X2 A2
  have A2 : H2.at H1.n = some (.row [.int .i64 (kb), .int .i64 (nb), sb] 24 false none) := A2
  have E2 := E1.trans X2
  have g2 : H0.n ≤ H1.n := E1.n
  have A1 := X2.keep _ _ A1
  refine o_rd (r_assign (by simp only [ev, envOf, val_set, ofValue, ofCell, ↓reduceIte, Nat.reduceEqDiff] <;> rfl)) rfl rfl ?_
  refine o_nil ?_
  refine w_seq ?_
  refine w_region ?_
  refine o_cl rfl rfl (by simp only [evs, ev, envOf, val_set, ofValue, ofCell, ↓reduceIte, Nat.reduceEqDiff] <;> rfl) rfl (fin_orc hs W2) rfl rfl ?_; rintro _ H3 ⟨rfl, X3⟩
  have W3 := X3.wf; have E3 := E2.trans X3
  have A1 := X3.keep _ _ A1
  have A2 := X3.keep _ _ A2
  have n3 := X3.n
  refine o_rd (r_assign (by simp only [ev, envOf, val_set, ofValue, ofCell, ↓reduceIte, Nat.reduceEqDiff] <;> rfl)) rfl rfl ?_
  refine o_nil ?_
  refine w_seq ?_
  refine w_seq ?_
  refine w_region ?_
  refine o_rd (r_loadN (cs := [.int .i64 (ka), .int .i64 (na), sa]) Ty.agg24 Ty.csz24 (by simp only [ev, envOf, val_set, ofValue, ofCell, ↓reduceIte, Nat.reduceEqDiff] <;> rfl) (read_mt A1 (Nat.le_of_ble_eq_true rfl))) rfl rfl ?_
  refine o_cl rfl rfl (by simp only [evs, ev, envOf, val_set, ofValue, ofCell, ↓reduceIte, Nat.reduceEqDiff] <;> rfl) rfl (great_fin (ho 10 rfl) W3 ((VA.mk ka na la sa ha).ext E3)) rfl rfl ?_; rintro _ H4 ⟨rfl, X4⟩
  have W4 := X4.wf; have E4 := E3.trans X4
  have A1 := X4.keep _ _ A1
  have A2 := X4.keep _ _ A2
  have n4 := X4.n
  refine o_rd (r_move (by simp only [ev, envOf, val_set, ofValue, ofCell, ↓reduceIte, Nat.reduceEqDiff] <;> rfl)) rfl rfl ?_
  cases hg5 : (gr 65537 0 [(V.mk ka na la, 1)] : Bool)
  · skip
    refine o_rd (r_loadN (cs := [.int .i64 (kb), .int .i64 (nb), sb]) Ty.agg24 Ty.csz24 (by simp only [ev, envOf, val_set, ofValue, ofCell, ↓reduceIte, Nat.reduceEqDiff] <;> rfl) (read_mt A2 (Nat.le_of_ble_eq_true rfl))) rfl ((wanted_of (b := false) rfl rfl rfl (by simp only [val_set, ↓reduceIte, Nat.reduceEqDiff] <;> rfl)).trans rfl) ?_
    refine o_cl rfl rfl (by simp only [evs, ev, envOf, val_set, ofValue, ofCell, ↓reduceIte, Nat.reduceEqDiff] <;> rfl) rfl (great_fin (ho 10 rfl) W4 ((VA.mk kb nb lb sb hb).ext E4)) rfl ((wanted_of (b := false) rfl rfl rfl (by simp only [val_set, ↓reduceIte, Nat.reduceEqDiff] <;> rfl)).trans rfl) ?_; rintro _ H6 ⟨rfl, X6⟩
    have W6 := X6.wf; have E6 := E4.trans X6
    have A1 := X6.keep _ _ A1
    have A2 := X6.keep _ _ A2
    have n6 := X6.n
    refine o_rd (r_pick (t := false) (by simp only [ev, envOf, val_set, ofValue, ofCell, ↓reduceIte, Nat.reduceEqDiff] <;> rfl) (fun h => by cases h) (fun _ => (by simp only [ev, envOf, val_set, ofValue, ofCell, ↓reduceIte, Nat.reduceEqDiff] <;> rfl))) rfl rfl ?_
    refine o_nil ?_
    refine w_cond (by simp only [ev, envOf, val_set, ofValue, ofCell, ↓reduceIte, Nat.reduceEqDiff] <;> rfl) (fun hc7 => ?_) (fun hc7 => ?_)
    · skip
      refine w_seq ?_
      refine w_region ?_
      refine o_rd (r_move (by simp only [ev, envOf, val_set, ofValue, ofCell, ↓reduceIte, Nat.reduceEqDiff] <;> rfl)) rfl rfl ?_
      refine o_rd (r_assign (by simp only [ev, envOf, val_set, ofValue, ofCell, ↓reduceIte, Nat.reduceEqDiff] <;> rfl)) rfl rfl ?_
      refine o_nil ?_
      refine w_ret ⟨.inr rfl, rfl, .bool (true), (show resultA Try.prog [.tmp 8] _ = _ by simp only [resultA, resultsA, envOf, val_set, ↓reduceIte, Nat.reduceEqDiff, Option.map_some] <;> rfl), ?_⟩
      try dsimp only
      exact ⟨by first | rfl | (exfalso; omega), E6⟩
    · skip
      refine w_skip ?_
      refine w_seq ?_
      refine w_region ?_
      have hga : gr 65537 0 [(V.mk ka na la, 1)] = false := by first | assumption | skip
      have hgb : gr 65537 0 [(V.mk kb nb lb, 1)] = false := by first | assumption | skip
      refine o_rd (r_loadN (cs := [.int .i64 (ka), .int .i64 (na), sa]) Ty.agg24 Ty.csz24 (by simp only [ev, envOf, val_set, ofValue, ofCell, ↓reduceIte, Nat.reduceEqDiff] <;> rfl) (read_mt A1 (Nat.le_of_ble_eq_true rfl))) rfl rfl ?_
      refine o_rd (r_move (by simp only [ev, envOf, val_set, ofValue, ofCell, ↓reduceIte, Nat.reduceEqDiff] <;> rfl)) rfl rfl ?_
      have hca := great_cnt hga; have hcb := great_cnt hgb
      rcases hpv : partV (V.mk ka na la) ps with _ | x
      · skip
        refine o_cl rfl rfl (by simp only [evs, ev, envOf, val_set, ofValue, ofCell, ↓reduceIte, Nat.reduceEqDiff] <;> rfl) rfl (part_not ho W6 (ka := ka) (na := na) (ha.ext E6) (hP.ext E6) (by omega) hpv) rfl rfl ?_; rintro _ H8 ⟨rfl, X8⟩
        have W8 := X8.wf; have E8 := E6.trans X8
        have A1 := X8.keep _ _ A1
        have A2 := X8.keep _ _ A2
        have n8 := X8.n
        refine o_rd (r_move (by simp only [ev, envOf, val_set, ofValue, ofCell, ↓reduceIte, Nat.reduceEqDiff] <;> rfl)) rfl rfl ?_
        refine o_rd (r_extract (by simp only [ev, envOf, val_set, ofValue, ofCell, ↓reduceIte, Nat.reduceEqDiff] <;> rfl) rfl) rfl rfl ?_
        refine o_rd (r_extract (by simp only [ev, envOf, val_set, ofValue, ofCell, ↓reduceIte, Nat.reduceEqDiff] <;> rfl) rfl) rfl rfl ?_
        refine o_nw W8 (a_alloc Ty.zero24) rfl rfl rfl (by simp) ?_; intro H9 n9 W9 X9 A9
        have A9 : H9.at H8.n = some (.row [.int .i64 (0), .int .i64 (0), .nils] 24 false none) := A9
        have E9 := E8.trans X9
        have g9 : H0.n ≤ H8.n := E8.n
        have A1 := X9.keep _ _ A1
        have A2 := X9.keep _ _ A2
        refine o_st W9 (by simp only [ev, envOf, val_set, ofValue, ofCell, ↓reduceIte, Nat.reduceEqDiff] <;> rfl) (by simp only [ev, envOf, val_set, ofValue, ofCell, ↓reduceIte, Nat.reduceEqDiff] <;> rfl) A9 Ty.csz24 rfl (Nat.le_of_ble_eq_true rfl) (by first | rfl | exact ones3 (SA.one' hx) | exact ones3 (SA.one' hw) | exact ones3 (SA.one' hn) | exact ones3 (SA.one' hk) | exact ones3 (SA.one' hy) | exact ones3 (SA.one' hz)) rfl rfl ?_; intro H10 n10 W10 A10 K10
        have A10 : H10.at H8.n = some (.row [.int .i64 (0), .int .i64 (0), .nils] 24 false none) := A10
        have E10 := Ext.put W0 E9 (by have := E9.n; omega) K10 n10 W10
        have A1 := K10.own A1 (by omega)
        have A2 := K10.own A2 (by omega)
        refine o_rd (r_assign (by simp only [ev, envOf, val_set, ofValue, ofCell, ↓reduceIte, Nat.reduceEqDiff] <;> rfl)) rfl rfl ?_
        refine o_nil ?_
        refine w_seq ?_
        refine w_region ?_
        refine o_rd (r_loadN (cs := [.int .i64 (ka), .int .i64 (na), sa]) Ty.agg24 Ty.csz24 (by simp only [ev, envOf, val_set, ofValue, ofCell, ↓reduceIte, Nat.reduceEqDiff] <;> rfl) (read_mt A1 (Nat.le_of_ble_eq_true rfl))) rfl rfl ?_
        refine o_rd (r_move (by simp only [ev, envOf, val_set, ofValue, ofCell, ↓reduceIte, Nat.reduceEqDiff] <;> rfl)) rfl rfl ?_
        refine o_rd (r_loadN (cs := [.int .i64 (kb), .int .i64 (nb), sb]) Ty.agg24 Ty.csz24 (by simp only [ev, envOf, val_set, ofValue, ofCell, ↓reduceIte, Nat.reduceEqDiff] <;> rfl) (read_mt A2 (Nat.le_of_ble_eq_true rfl))) rfl rfl ?_
        refine o_cl rfl rfl (by simp only [evs, ev, envOf, val_set, ofValue, ofCell, ↓reduceIte, Nat.reduceEqDiff] <;> rfl) rfl (with_not ho W10 (ka := ka) (na := na) (kb := kb) (nb := nb) (ha.ext E10) (hb.ext E10) (hP.ext E10) (by omega) (by omega) hpv) rfl rfl ?_; rintro _ H11 ⟨rfl, X11⟩
        have W11 := X11.wf; have E11 := E10.trans X11
        have A1 := X11.keep _ _ A1
        have A2 := X11.keep _ _ A2
        have A10 := X11.keep _ _ A10
        have n11 := X11.n
        refine o_rd (r_move (by simp only [ev, envOf, val_set, ofValue, ofCell, ↓reduceIte, Nat.reduceEqDiff] <;> rfl)) rfl rfl ?_
        refine o_rd (r_extract (by simp only [ev, envOf, val_set, ofValue, ofCell, ↓reduceIte, Nat.reduceEqDiff] <;> rfl) rfl) rfl rfl ?_
        refine o_rd (r_extract (by simp only [ev, envOf, val_set, ofValue, ofCell, ↓reduceIte, Nat.reduceEqDiff] <;> rfl) rfl) rfl rfl ?_
        refine o_nw W11 (a_alloc Ty.zero24) rfl rfl rfl (by simp) ?_; intro H12 n12 W12 X12 A12
        have A12 : H12.at H11.n = some (.row [.int .i64 (0), .int .i64 (0), .nils] 24 false none) := A12
        have E12 := E11.trans X12
        have g12 : H0.n ≤ H11.n := E11.n
        have A1 := X12.keep _ _ A1
        have A2 := X12.keep _ _ A2
        have A10 := X12.keep _ _ A10
        refine o_st W12 (by simp only [ev, envOf, val_set, ofValue, ofCell, ↓reduceIte, Nat.reduceEqDiff] <;> rfl) (by simp only [ev, envOf, val_set, ofValue, ofCell, ↓reduceIte, Nat.reduceEqDiff] <;> rfl) A12 Ty.csz24 rfl (Nat.le_of_ble_eq_true rfl) (by first | rfl | exact ones3 (SA.one' hx) | exact ones3 (SA.one' hw) | exact ones3 (SA.one' hn) | exact ones3 (SA.one' hk) | exact ones3 (SA.one' hy) | exact ones3 (SA.one' hz)) rfl rfl ?_; intro H13 n13 W13 A13 K13
        have A13 : H13.at H11.n = some (.row [.int .i64 (0), .int .i64 (0), .nils] 24 false none) := A13
        have E13 := Ext.put W0 E12 (by have := E12.n; omega) K13 n13 W13
        have A1 := K13.own A1 (by omega)
        have A2 := K13.own A2 (by omega)
        have A10 := K13.own A10 (by omega)
        refine o_rd (r_assign (by simp only [ev, envOf, val_set, ofValue, ofCell, ↓reduceIte, Nat.reduceEqDiff] <;> rfl)) rfl rfl ?_
        refine o_nil ?_
        refine w_seq ?_
        refine w_seq ?_
        refine w_region ?_
        refine o_rd (r_move (by simp only [ev, envOf, val_set, ofValue, ofCell, ↓reduceIte, Nat.reduceEqDiff] <;> rfl)) rfl rfl ?_
        refine o_rd (r_move (by simp only [ev, envOf, val_set, ofValue, ofCell, ↓reduceIte, Nat.reduceEqDiff] <;> rfl)) rfl rfl ?_
        refine o_rd (r_neB Try.underlying4 (by simp only [ev, envOf, val_set, ofValue, ofCell, ↓reduceIte, Nat.reduceEqDiff] <;> rfl) (by simp only [ev, envOf, val_set, ofValue, ofCell, ↓reduceIte, Nat.reduceEqDiff] <;> rfl)) rfl rfl ?_
        refine o_nil ?_
        refine w_cond (t := false) (by simp only [ev, envOf, val_set, ofValue, ofCell, ↓reduceIte, Nat.reduceEqDiff] <;> rfl) (fun h => by cases h) (fun _ => ?_)
        refine w_skip ?_
        refine w_seq ?_
        refine w_seq ?_
        refine w_region ?_
        refine o_rd (r_move (by simp only [ev, envOf, val_set, ofValue, ofCell, ↓reduceIte, Nat.reduceEqDiff] <;> rfl)) rfl rfl ?_
        refine o_rd (r_not (by simp only [ev, envOf, val_set, ofValue, ofCell, ↓reduceIte, Nat.reduceEqDiff] <;> rfl)) rfl rfl ?_
        refine o_nil ?_
        refine w_cond (t := true) (by simp only [ev, envOf, val_set, ofValue, ofCell, ↓reduceIte, Nat.reduceEqDiff] <;> rfl) (fun _ => ?_) (fun h => by cases h)
        refine w_seq ?_
        refine w_region ?_
        refine o_rd (r_move (by simp only [ev, envOf, val_set, ofValue, ofCell, ↓reduceIte, Nat.reduceEqDiff] <;> rfl)) rfl rfl ?_
        refine o_rd (r_move (by simp only [ev, envOf, val_set, ofValue, ofCell, ↓reduceIte, Nat.reduceEqDiff] <;> rfl)) rfl rfl ?_
        refine o_rd (r_loadN (cs := [.int .i64 (0), .int .i64 (0), .nils]) Ty.agg24 Ty.csz24 (by simp only [ev, envOf, val_set, ofValue, ofCell, ↓reduceIte, Nat.reduceEqDiff] <;> rfl) (read_mt A13 (Nat.le_of_ble_eq_true rfl))) rfl ((wanted_of (b := true) rfl rfl rfl (by simp only [val_set, ↓reduceIte, Nat.reduceEqDiff] <;> rfl)).trans rfl) ?_
        refine o_rd (r_build (cs := [.int .i64 (0), .int .i64 (0), .nils]) Ty.zero24 Ty.pl24 (by simp only [evParts, ev, envOf, val_set, ofValue, ofCell, ↓reduceIte, Nat.reduceEqDiff] <;> rfl) rfl) rfl ((wanted_of (b := true) rfl rfl rfl (by simp only [val_set, ↓reduceIte, Nat.reduceEqDiff] <;> rfl)).trans rfl) ?_
        refine o_cl rfl rfl (by simp only [evs, ev, envOf, val_set, ofValue, ofCell, ↓reduceIte, Nat.reduceEqDiff] <;> rfl) rfl (same_selfP ho W13 (VA.mk (0) (0) [] _ .nil) (VA.mk (0) (0) [] _ .nil)) rfl ((wanted_of (b := true) rfl rfl rfl (by simp only [val_set, ↓reduceIte, Nat.reduceEqDiff] <;> rfl)).trans rfl) ?_; rintro _ H14 ⟨rfl, X14⟩
        have W14 := X14.wf; have E14 := E13.trans X14
        have A1 := X14.keep _ _ A1
        have A2 := X14.keep _ _ A2
        have A10 := X14.keep _ _ A10
        have A13 := X14.keep _ _ A13
        have n14 := X14.n
        refine o_rd (r_pick (t := true) (by simp only [ev, envOf, val_set, ofValue, ofCell, ↓reduceIte, Nat.reduceEqDiff] <;> rfl) (fun _ => (by simp only [ev, envOf, val_set, ofValue, ofCell, ↓reduceIte, Nat.reduceEqDiff] <;> rfl)) (fun h => by cases h)) rfl rfl ?_
        refine o_rd (r_move (by simp only [ev, envOf, val_set, ofValue, ofCell, ↓reduceIte, Nat.reduceEqDiff] <;> rfl)) rfl rfl ?_
        refine o_rd (r_loadN (cs := [.int .i64 (0), .int .i64 (0), .nils]) Ty.agg24 Ty.csz24 (by simp only [ev, envOf, val_set, ofValue, ofCell, ↓reduceIte, Nat.reduceEqDiff] <;> rfl) (read_mt A10 (Nat.le_of_ble_eq_true rfl))) rfl ((wanted_of (b := true) rfl rfl rfl (by simp only [val_set, ↓reduceIte, Nat.reduceEqDiff] <;> rfl)).trans rfl) ?_
        refine o_rd (r_build (cs := [.int .i64 (0), .int .i64 (0), .nils]) Ty.zero24 Ty.pl24 (by simp only [evParts, ev, envOf, val_set, ofValue, ofCell, ↓reduceIte, Nat.reduceEqDiff] <;> rfl) rfl) rfl ((wanted_of (b := true) rfl rfl rfl (by simp only [val_set, ↓reduceIte, Nat.reduceEqDiff] <;> rfl)).trans rfl) ?_
        refine o_cl rfl rfl (by simp only [evs, ev, envOf, val_set, ofValue, ofCell, ↓reduceIte, Nat.reduceEqDiff] <;> rfl) rfl (same_selfP ho W14 (VA.mk (0) (0) [] _ .nil) (VA.mk (0) (0) [] _ .nil)) rfl ((wanted_of (b := true) rfl rfl rfl (by simp only [val_set, ↓reduceIte, Nat.reduceEqDiff] <;> rfl)).trans rfl) ?_; rintro _ H15 ⟨rfl, X15⟩
        have W15 := X15.wf; have E15 := E14.trans X15
        have A1 := X15.keep _ _ A1
        have A2 := X15.keep _ _ A2
        have A10 := X15.keep _ _ A10
        have A13 := X15.keep _ _ A13
        have n15 := X15.n
        refine o_rd (r_pick (t := true) (by simp only [ev, envOf, val_set, ofValue, ofCell, ↓reduceIte, Nat.reduceEqDiff] <;> rfl) (fun _ => (by simp only [ev, envOf, val_set, ofValue, ofCell, ↓reduceIte, Nat.reduceEqDiff] <;> rfl)) (fun h => by cases h)) rfl rfl ?_
        refine o_rd (r_assign (by simp only [ev, envOf, val_set, ofValue, ofCell, ↓reduceIte, Nat.reduceEqDiff] <;> rfl)) rfl rfl ?_
        refine o_nil ?_
        refine w_ret ⟨.inr rfl, rfl, .bool (true), (show resultA Try.prog [.tmp 8] _ = _ by simp only [resultA, resultsA, envOf, val_set, ↓reduceIte, Nat.reduceEqDiff, Option.map_some] <;> rfl), ?_⟩
        try dsimp only
        exact ⟨by first | rfl | (exfalso; omega), E15⟩
      · obtain ⟨kx, nx, lx⟩ := x
        obtain ⟨⟨kw, nw, lw⟩, hput⟩ := put_of_part (.mk kb nb lb) hpv
        obtain ⟨hp1, hp2, hp3, hp4⟩ := put_props hpv hput
        have hcx := partV_cnt hpv
        refine o_cl rfl rfl (by simp only [evs, ev, envOf, val_set, ofValue, ofCell, ↓reduceIte, Nat.reduceEqDiff] <;> rfl) rfl (part_at ho W6 (ka := ka) (na := na) (ha.ext E6) (hP.ext E6) (by omega) hpv) rfl rfl ?_; rintro _ H16 ⟨sx, rfl, hx, X16⟩
        have W16 := X16.wf; have E16 := E6.trans X16
        have A1 := X16.keep _ _ A1
        have A2 := X16.keep _ _ A2
        have n16 := X16.n
        refine o_rd (r_move (by simp only [ev, envOf, val_set, ofValue, ofCell, ↓reduceIte, Nat.reduceEqDiff] <;> rfl)) rfl rfl ?_
        refine o_rd (r_extract (by simp only [ev, envOf, val_set, ofValue, ofCell, ↓reduceIte, Nat.reduceEqDiff] <;> rfl) rfl) rfl rfl ?_
        refine o_rd (r_extract (by simp only [ev, envOf, val_set, ofValue, ofCell, ↓reduceIte, Nat.reduceEqDiff] <;> rfl) rfl) rfl rfl ?_
        refine o_nw W16 (a_alloc Ty.zero24) rfl rfl rfl (by simp) ?_; intro H17 n17 W17 X17 A17
        have A17 : H17.at H16.n = some (.row [.int .i64 (0), .int .i64 (0), .nils] 24 false none) := A17
        have E17 := E16.trans X17
        have g17 : H0.n ≤ H16.n := E16.n
        have A1 := X17.keep _ _ A1
        have A2 := X17.keep _ _ A2
        refine o_st W17 (by simp only [ev, envOf, val_set, ofValue, ofCell, ↓reduceIte, Nat.reduceEqDiff] <;> rfl) (by simp only [ev, envOf, val_set, ofValue, ofCell, ↓reduceIte, Nat.reduceEqDiff] <;> rfl) A17 Ty.csz24 rfl (Nat.le_of_ble_eq_true rfl) (by first | rfl | exact ones3 (SA.one' hx) | exact ones3 (SA.one' hw) | exact ones3 (SA.one' hn) | exact ones3 (SA.one' hk) | exact ones3 (SA.one' hy) | exact ones3 (SA.one' hz)) rfl rfl ?_; intro H18 n18 W18 A18 K18
        have A18 : H18.at H16.n = some (.row [.int .i64 (kx), .int .i64 (nx), sx] 24 false none) := A18
        have E18 := Ext.put W0 E17 (by have := E17.n; omega) K18 n18 W18
        have A1 := K18.own A1 (by omega)
        have A2 := K18.own A2 (by omega)
        refine o_rd (r_assign (by simp only [ev, envOf, val_set, ofValue, ofCell, ↓reduceIte, Nat.reduceEqDiff] <;> rfl)) rfl rfl ?_
        refine o_nil ?_
        refine w_seq ?_
        refine w_region ?_
        refine o_rd (r_loadN (cs := [.int .i64 (ka), .int .i64 (na), sa]) Ty.agg24 Ty.csz24 (by simp only [ev, envOf, val_set, ofValue, ofCell, ↓reduceIte, Nat.reduceEqDiff] <;> rfl) (read_mt A1 (Nat.le_of_ble_eq_true rfl))) rfl rfl ?_
        refine o_rd (r_move (by simp only [ev, envOf, val_set, ofValue, ofCell, ↓reduceIte, Nat.reduceEqDiff] <;> rfl)) rfl rfl ?_
        refine o_rd (r_loadN (cs := [.int .i64 (kb), .int .i64 (nb), sb]) Ty.agg24 Ty.csz24 (by simp only [ev, envOf, val_set, ofValue, ofCell, ↓reduceIte, Nat.reduceEqDiff] <;> rfl) (read_mt A2 (Nat.le_of_ble_eq_true rfl))) rfl rfl ?_
        refine o_cl rfl rfl (by simp only [evs, ev, envOf, val_set, ofValue, ofCell, ↓reduceIte, Nat.reduceEqDiff] <;> rfl) rfl (with_at ho W18 (ka := ka) (na := na) (kb := kb) (nb := nb) (ha.ext E18) (hb.ext E18) (hP.ext E18) (by omega) (by omega) hpv hput) rfl rfl ?_; rintro _ H19 ⟨sw, rfl, hw, X19⟩
        have W19 := X19.wf; have E19 := E18.trans X19
        have A1 := X19.keep _ _ A1
        have A2 := X19.keep _ _ A2
        have A18 := X19.keep _ _ A18
        have n19 := X19.n
        refine o_rd (r_move (by simp only [ev, envOf, val_set, ofValue, ofCell, ↓reduceIte, Nat.reduceEqDiff] <;> rfl)) rfl rfl ?_
        refine o_rd (r_extract (by simp only [ev, envOf, val_set, ofValue, ofCell, ↓reduceIte, Nat.reduceEqDiff] <;> rfl) rfl) rfl rfl ?_
        refine o_rd (r_extract (by simp only [ev, envOf, val_set, ofValue, ofCell, ↓reduceIte, Nat.reduceEqDiff] <;> rfl) rfl) rfl rfl ?_
        refine o_nw W19 (a_alloc Ty.zero24) rfl rfl rfl (by simp) ?_; intro H20 n20 W20 X20 A20
        have A20 : H20.at H19.n = some (.row [.int .i64 (0), .int .i64 (0), .nils] 24 false none) := A20
        have E20 := E19.trans X20
        have g20 : H0.n ≤ H19.n := E19.n
        have A1 := X20.keep _ _ A1
        have A2 := X20.keep _ _ A2
        have A18 := X20.keep _ _ A18
        refine o_st W20 (by simp only [ev, envOf, val_set, ofValue, ofCell, ↓reduceIte, Nat.reduceEqDiff] <;> rfl) (by simp only [ev, envOf, val_set, ofValue, ofCell, ↓reduceIte, Nat.reduceEqDiff] <;> rfl) A20 Ty.csz24 rfl (Nat.le_of_ble_eq_true rfl) (by first | rfl | exact ones3 (SA.one' hx) | exact ones3 (SA.one' hw) | exact ones3 (SA.one' hn) | exact ones3 (SA.one' hk) | exact ones3 (SA.one' hy) | exact ones3 (SA.one' hz)) rfl rfl ?_; intro H21 n21 W21 A21 K21
        have A21 : H21.at H19.n = some (.row [.int .i64 (kw), .int .i64 (nw), sw] 24 false none) := A21
        have E21 := Ext.put W0 E20 (by have := E20.n; omega) K21 n21 W21
        have A1 := K21.own A1 (by omega)
        have A2 := K21.own A2 (by omega)
        have A18 := K21.own A18 (by omega)
        refine o_rd (r_assign (by simp only [ev, envOf, val_set, ofValue, ofCell, ↓reduceIte, Nat.reduceEqDiff] <;> rfl)) rfl rfl ?_
        refine o_nil ?_
        refine w_seq ?_
        refine w_seq ?_
        refine w_region ?_
        refine o_rd (r_move (by simp only [ev, envOf, val_set, ofValue, ofCell, ↓reduceIte, Nat.reduceEqDiff] <;> rfl)) rfl rfl ?_
        refine o_rd (r_move (by simp only [ev, envOf, val_set, ofValue, ofCell, ↓reduceIte, Nat.reduceEqDiff] <;> rfl)) rfl rfl ?_
        refine o_rd (r_neB Try.underlying4 (by simp only [ev, envOf, val_set, ofValue, ofCell, ↓reduceIte, Nat.reduceEqDiff] <;> rfl) (by simp only [ev, envOf, val_set, ofValue, ofCell, ↓reduceIte, Nat.reduceEqDiff] <;> rfl)) rfl rfl ?_
        refine o_nil ?_
        refine w_cond (t := false) (by simp only [ev, envOf, val_set, ofValue, ofCell, ↓reduceIte, Nat.reduceEqDiff] <;> rfl) (fun h => by cases h) (fun _ => ?_)
        refine w_skip ?_
        refine w_seq ?_
        refine w_seq ?_
        refine w_region ?_
        refine o_rd (r_move (by simp only [ev, envOf, val_set, ofValue, ofCell, ↓reduceIte, Nat.reduceEqDiff] <;> rfl)) rfl rfl ?_
        refine o_rd (r_not (by simp only [ev, envOf, val_set, ofValue, ofCell, ↓reduceIte, Nat.reduceEqDiff] <;> rfl)) rfl rfl ?_
        refine o_nil ?_
        refine w_cond (t := false) (by simp only [ev, envOf, val_set, ofValue, ofCell, ↓reduceIte, Nat.reduceEqDiff] <;> rfl) (fun h => by cases h) (fun _ => ?_)
        refine w_skip ?_
        refine w_seq ?_
        refine w_region ?_
        refine o_rd (r_loadN (cs := [.int .i64 (kw), .int .i64 (nw), sw]) Ty.agg24 Ty.csz24 (by simp only [ev, envOf, val_set, ofValue, ofCell, ↓reduceIte, Nat.reduceEqDiff] <;> rfl) (read_mt A21 (Nat.le_of_ble_eq_true rfl))) rfl rfl ?_
        refine o_rd (r_move (by simp only [ev, envOf, val_set, ofValue, ofCell, ↓reduceIte, Nat.reduceEqDiff] <;> rfl)) rfl rfl ?_
        refine o_cl rfl rfl (by simp only [evs, ev, envOf, val_set, ofValue, ofCell, ↓reduceIte, Nat.reduceEqDiff] <;> rfl) rfl (part_at ho W21 (ka := kw) (na := nw) (hw.ext (Ext.put W19 ((Ext.refl W19).trans X20) (by omega) K21 n21 W21)) (hP.ext E21) (by omega) hp1) rfl rfl ?_; rintro _ H22 ⟨sn, rfl, hn, X22⟩
        have W22 := X22.wf; have E22 := E21.trans X22
        have A1 := X22.keep _ _ A1
        have A2 := X22.keep _ _ A2
        have A18 := X22.keep _ _ A18
        have A21 := X22.keep _ _ A21
        have n22 := X22.n
        refine o_rd (r_move (by simp only [ev, envOf, val_set, ofValue, ofCell, ↓reduceIte, Nat.reduceEqDiff] <;> rfl)) rfl rfl ?_
        refine o_rd (r_extract (by simp only [ev, envOf, val_set, ofValue, ofCell, ↓reduceIte, Nat.reduceEqDiff] <;> rfl) rfl) rfl rfl ?_
        refine o_rd (r_extract (by simp only [ev, envOf, val_set, ofValue, ofCell, ↓reduceIte, Nat.reduceEqDiff] <;> rfl) rfl) rfl rfl ?_
        refine o_nw W22 (a_alloc Ty.zero24) rfl rfl rfl (by simp) ?_; intro H23 n23 W23 X23 A23
        have A23 : H23.at H22.n = some (.row [.int .i64 (0), .int .i64 (0), .nils] 24 false none) := A23
        have E23 := E22.trans X23
        have g23 : H0.n ≤ H22.n := E22.n
        have A1 := X23.keep _ _ A1
        have A2 := X23.keep _ _ A2
        have A18 := X23.keep _ _ A18
        have A21 := X23.keep _ _ A21
        refine o_st W23 (by simp only [ev, envOf, val_set, ofValue, ofCell, ↓reduceIte, Nat.reduceEqDiff] <;> rfl) (by simp only [ev, envOf, val_set, ofValue, ofCell, ↓reduceIte, Nat.reduceEqDiff] <;> rfl) A23 Ty.csz24 rfl (Nat.le_of_ble_eq_true rfl) (by first | rfl | exact ones3 (SA.one' hx) | exact ones3 (SA.one' hw) | exact ones3 (SA.one' hn) | exact ones3 (SA.one' hk) | exact ones3 (SA.one' hy) | exact ones3 (SA.one' hz)) rfl rfl ?_; intro H24 n24 W24 A24 K24
        have A24 : H24.at H22.n = some (.row [.int .i64 (kb), .int .i64 (nb), sn] 24 false none) := A24
        have E24 := Ext.put W0 E23 (by have := E23.n; omega) K24 n24 W24
        have A1 := K24.own A1 (by omega)
        have A2 := K24.own A2 (by omega)
        have A18 := K24.own A18 (by omega)
        have A21 := K24.own A21 (by omega)
        refine o_rd (r_assign (by simp only [ev, envOf, val_set, ofValue, ofCell, ↓reduceIte, Nat.reduceEqDiff] <;> rfl)) rfl rfl ?_
        refine o_nil ?_
        refine w_seq ?_
        refine w_region ?_
        refine o_rd (r_assign (by simp only [ev, envOf, val_set, ofValue, ofCell, ↓reduceIte, Nat.reduceEqDiff] <;> rfl)) rfl rfl ?_
        refine o_nil ?_
        refine w_seq ?_
        refine w_seq ?_
        refine w_draw (ms := [0, 1, 3, 7, 7, 31, 63, 127, 255, 511, 511, 2047, 511, 511, 16383, 511, 511, 131071, 262143, 511, 511, 1835007, 4194303, 8388607, 16777215]) (ord := [0, 1, 2, 3, 4, 5, 6, 7, 8, 9, 10, 12, 13, 15, 16, 19, 20, 11, 14, 17, 18, 21, 22, 23, 24]) (by kernel_rfl) (by kernel_rfl) (by kernel_rfl) ?_
        refine d_rd rfl (r_move (by simp only [ev, envOf, val_set, ofValue, ofCell, ↓reduceIte, Nat.reduceEqDiff] <;> rfl)) rfl rfl ?_
        refine d_rd rfl (r_not (by simp only [ev, envOf, val_set, ofValue, ofCell, ↓reduceIte, Nat.reduceEqDiff] <;> rfl)) rfl rfl ?_
        refine d_rd rfl (r_move (by simp only [ev, envOf, val_set, ofValue, ofCell, ↓reduceIte, Nat.reduceEqDiff] <;> rfl)) rfl rfl ?_
        refine d_rd rfl (r_loadN (cs := [.int .i64 (kb), .int .i64 (nb), sn]) Ty.agg24 Ty.csz24 (by simp only [ev, envOf, val_set, ofValue, ofCell, ↓reduceIte, Nat.reduceEqDiff] <;> rfl) (read_mt A24 (Nat.le_of_ble_eq_true rfl))) rfl ((wanted_of (b := false) rfl rfl rfl (by simp only [val_set, ↓reduceIte, Nat.reduceEqDiff] <;> rfl)).trans rfl) ?_
        refine d_rd rfl (r_loadN (cs := [.int .i64 (kb), .int .i64 (nb), sb]) Ty.agg24 Ty.csz24 (by simp only [ev, envOf, val_set, ofValue, ofCell, ↓reduceIte, Nat.reduceEqDiff] <;> rfl) (read_mt A2 (Nat.le_of_ble_eq_true rfl))) rfl ((wanted_of (b := false) rfl rfl rfl (by simp only [val_set, ↓reduceIte, Nat.reduceEqDiff] <;> rfl)).trans rfl) ?_
        refine d_cl rfl rfl rfl (by simp only [evs, ev, envOf, val_set, ofValue, ofCell, ↓reduceIte, Nat.reduceEqDiff] <;> rfl) rfl (same_selfP ho W24 (VA.mk (kb) (nb) lb _ (hn.ext (Ext.put W22 ((Ext.refl W22).trans X23) (by omega) K24 n24 W24))) (VA.mk (kb) (nb) lb _ (hb.ext E24))) rfl ((wanted_of (b := false) rfl rfl rfl (by simp only [val_set, ↓reduceIte, Nat.reduceEqDiff] <;> rfl)).trans rfl) ?_; rintro _ H25 ⟨rfl, X25⟩
        have W25 := X25.wf; have E25 := E24.trans X25
        have A1 := X25.keep _ _ A1
        have A2 := X25.keep _ _ A2
        have A18 := X25.keep _ _ A18
        have A21 := X25.keep _ _ A21
        have A24 := X25.keep _ _ A24
        have n25 := X25.n
        refine ⟨re_forcedL (M := 31) (I := 4) rfl rfl (by decide) (re_forcedL (M := 31) (I := 3) rfl rfl (by decide) (re_forcedL (M := 31) (I := 2) rfl rfl (by decide) (re_forcedL (M := 31) (I := 1) rfl rfl (by decide) (re_forcedL (M := 31) (I := 0) rfl rfl (by decide) (re_nil))))), ?_⟩
        refine d_rd rfl (r_not (by simp only [ev, envOf, val_set, ofValue, ofCell, ↓reduceIte, Nat.reduceEqDiff] <;> rfl)) rfl ((wanted_of (b := false) rfl rfl rfl (by simp only [val_set, ↓reduceIte, Nat.reduceEqDiff] <;> rfl)).trans rfl) ?_
        refine d_rd rfl (r_pick (t := false) (by simp only [ev, envOf, val_set, ofValue, ofCell, ↓reduceIte, Nat.reduceEqDiff] <;> rfl) (fun h => by cases h) (fun _ => (by simp only [ev, envOf, val_set, ofValue, ofCell, ↓reduceIte, Nat.reduceEqDiff] <;> rfl))) rfl rfl ?_
        refine d_rd rfl (r_move (by simp only [ev, envOf, val_set, ofValue, ofCell, ↓reduceIte, Nat.reduceEqDiff] <;> rfl)) rfl rfl ?_
        refine d_rd rfl (r_loadN (cs := [.int .i64 (kw), .int .i64 (nw), sw]) Ty.agg24 Ty.csz24 (by simp only [ev, envOf, val_set, ofValue, ofCell, ↓reduceIte, Nat.reduceEqDiff] <;> rfl) (read_mt A21 (Nat.le_of_ble_eq_true rfl))) rfl ((wanted_of (b := false) rfl rfl rfl (by simp only [val_set, ↓reduceIte, Nat.reduceEqDiff] <;> rfl)).trans rfl) ?_
        refine d_rd rfl (r_move (by simp only [ev, envOf, val_set, ofValue, ofCell, ↓reduceIte, Nat.reduceEqDiff] <;> rfl)) rfl ((wanted_of (b := false) rfl rfl rfl (by simp only [val_set, ↓reduceIte, Nat.reduceEqDiff] <;> rfl)).trans rfl) ?_
        refine d_rd rfl (r_loadN (cs := [.int .i64 (ka), .int .i64 (na), sa]) Ty.agg24 Ty.csz24 (by simp only [ev, envOf, val_set, ofValue, ofCell, ↓reduceIte, Nat.reduceEqDiff] <;> rfl) (read_mt A1 (Nat.le_of_ble_eq_true rfl))) rfl ((wanted_of (b := false) rfl rfl rfl (by simp only [val_set, ↓reduceIte, Nat.reduceEqDiff] <;> rfl)).trans rfl) ?_
        refine d_rd rfl (r_move (by simp only [ev, envOf, val_set, ofValue, ofCell, ↓reduceIte, Nat.reduceEqDiff] <;> rfl)) rfl ((wanted_of (b := false) rfl rfl rfl (by simp only [val_set, ↓reduceIte, Nat.reduceEqDiff] <;> rfl)).trans rfl) ?_
        refine d_rd rfl (r_loadN (cs := [.int .i64 (kx), .int .i64 (nx), sx]) Ty.agg24 Ty.csz24 (by simp only [ev, envOf, val_set, ofValue, ofCell, ↓reduceIte, Nat.reduceEqDiff] <;> rfl) (read_mt A18 (Nat.le_of_ble_eq_true rfl))) rfl ((wanted_of (b := false) rfl rfl rfl (by simp only [val_set, ↓reduceIte, Nat.reduceEqDiff] <;> rfl)).trans rfl) ?_
        refine d_rd rfl (r_move (by simp only [ev, envOf, val_set, ofValue, ofCell, ↓reduceIte, Nat.reduceEqDiff] <;> rfl)) rfl ((wanted_of (b := false) rfl rfl rfl (by simp only [val_set, ↓reduceIte, Nat.reduceEqDiff] <;> rfl)).trans rfl) ?_
        refine d_rd rfl (r_loadN (cs := [.int .i64 (kb), .int .i64 (nb), sb]) Ty.agg24 Ty.csz24 (by simp only [ev, envOf, val_set, ofValue, ofCell, ↓reduceIte, Nat.reduceEqDiff] <;> rfl) (read_mt A2 (Nat.le_of_ble_eq_true rfl))) rfl ((wanted_of (b := false) rfl rfl rfl (by simp only [val_set, ↓reduceIte, Nat.reduceEqDiff] <;> rfl)).trans rfl) ?_
        refine d_rd rfl (r_move (by simp only [ev, envOf, val_set, ofValue, ofCell, ↓reduceIte, Nat.reduceEqDiff] <;> rfl)) rfl ((wanted_of (b := false) rfl rfl rfl (by simp only [val_set, ↓reduceIte, Nat.reduceEqDiff] <;> rfl)).trans rfl) ?_
        refine d_cl rfl rfl rfl (by simp only [evs, ev, envOf, val_set, ofValue, ofCell, ↓reduceIte, Nat.reduceEqDiff] <;> rfl) rfl (size_at ho W25 (ka := kw) (na := nw) (hw.ext ((Ext.put W19 (((Ext.put W19 ((Ext.refl W19).trans X20) (by omega) K21 n21 W21).trans X22).trans X23) (by omega) K24 n24 W24).trans X25)) (by omega)) rfl ((wanted_of (b := false) rfl rfl rfl (by simp only [val_set, ↓reduceIte, Nat.reduceEqDiff] <;> rfl)).trans rfl) ?_; rintro _ H26 ⟨rfl, X26⟩
        have W26 := X26.wf; have E26 := E25.trans X26
        have A1 := X26.keep _ _ A1
        have A2 := X26.keep _ _ A2
        have A18 := X26.keep _ _ A18
        have A21 := X26.keep _ _ A21
        have A24 := X26.keep _ _ A24
        have n26 := X26.n
        refine ⟨re_same (r_move (by simp only [ev, envOf, val_set, ofValue, ofCell, ↓reduceIte, Nat.reduceEqDiff] <;> rfl)) (re_same (r_loadN (cs := [.int .i64 (kb), .int .i64 (nb), sb]) Ty.agg24 Ty.csz24 (by simp only [ev, envOf, val_set, ofValue, ofCell, ↓reduceIte, Nat.reduceEqDiff] <;> rfl) (read_mt A2 (Nat.le_of_ble_eq_true rfl))) (re_same (r_move (by simp only [ev, envOf, val_set, ofValue, ofCell, ↓reduceIte, Nat.reduceEqDiff] <;> rfl)) (re_same (r_loadN (cs := [.int .i64 (kx), .int .i64 (nx), sx]) Ty.agg24 Ty.csz24 (by simp only [ev, envOf, val_set, ofValue, ofCell, ↓reduceIte, Nat.reduceEqDiff] <;> rfl) (read_mt A18 (Nat.le_of_ble_eq_true rfl))) (re_same (r_move (by simp only [ev, envOf, val_set, ofValue, ofCell, ↓reduceIte, Nat.reduceEqDiff] <;> rfl)) (re_same (r_loadN (cs := [.int .i64 (ka), .int .i64 (na), sa]) Ty.agg24 Ty.csz24 (by simp only [ev, envOf, val_set, ofValue, ofCell, ↓reduceIte, Nat.reduceEqDiff] <;> rfl) (read_mt A1 (Nat.le_of_ble_eq_true rfl))) (re_forcedL (M := 2047) (I := 10) rfl rfl (by decide) (re_forcedL (M := 2047) (I := 9) rfl rfl (by decide) (re_forcedL (M := 2047) (I := 8) rfl rfl (by decide) (re_forcedL (M := 2047) (I := 7) rfl rfl (by decide) (re_forcedL (M := 2047) (I := 6) rfl rfl (by decide) (re_forcedL (M := 2047) (I := 4) rfl rfl (by decide) (re_forcedL (M := 2047) (I := 3) rfl rfl (by decide) (re_forcedL (M := 2047) (I := 2) rfl rfl (by decide) (re_forcedL (M := 2047) (I := 1) rfl rfl (by decide) (re_forcedL (M := 2047) (I := 0) rfl rfl (by decide) (re_nil)))))))))))))))), ?_⟩
        refine d_cl rfl rfl rfl (by simp only [evs, ev, envOf, val_set, ofValue, ofCell, ↓reduceIte, Nat.reduceEqDiff] <;> rfl) rfl (size_at ho W26 (ka := ka) (na := na) (ha.ext E26) (by omega)) rfl ((wanted_of (b := false) rfl rfl rfl (by simp only [val_set, ↓reduceIte, Nat.reduceEqDiff] <;> rfl)).trans rfl) ?_; rintro _ H27 ⟨rfl, X27⟩
        have W27 := X27.wf; have E27 := E26.trans X27
        have A1 := X27.keep _ _ A1
        have A2 := X27.keep _ _ A2
        have A18 := X27.keep _ _ A18
        have A21 := X27.keep _ _ A21
        have A24 := X27.keep _ _ A24
        have n27 := X27.n
        refine ⟨re_same (r_move (by simp only [ev, envOf, val_set, ofValue, ofCell, ↓reduceIte, Nat.reduceEqDiff] <;> rfl)) (re_same (r_loadN (cs := [.int .i64 (kb), .int .i64 (nb), sb]) Ty.agg24 Ty.csz24 (by simp only [ev, envOf, val_set, ofValue, ofCell, ↓reduceIte, Nat.reduceEqDiff] <;> rfl) (read_mt A2 (Nat.le_of_ble_eq_true rfl))) (re_same (r_move (by simp only [ev, envOf, val_set, ofValue, ofCell, ↓reduceIte, Nat.reduceEqDiff] <;> rfl)) (re_same (r_loadN (cs := [.int .i64 (kx), .int .i64 (nx), sx]) Ty.agg24 Ty.csz24 (by simp only [ev, envOf, val_set, ofValue, ofCell, ↓reduceIte, Nat.reduceEqDiff] <;> rfl) (read_mt A18 (Nat.le_of_ble_eq_true rfl))) (re_forcedL (M := 16383) (I := 13) rfl rfl (by decide) (re_forcedL (M := 16383) (I := 12) rfl rfl (by decide) (re_forcedL (M := 16383) (I := 10) rfl rfl (by decide) (re_forcedL (M := 16383) (I := 9) rfl rfl (by decide) (re_forcedL (M := 16383) (I := 8) rfl rfl (by decide) (re_forcedL (M := 16383) (I := 7) rfl rfl (by decide) (re_forcedL (M := 16383) (I := 6) rfl rfl (by decide) (re_forcedL (M := 16383) (I := 4) rfl rfl (by decide) (re_forcedL (M := 16383) (I := 3) rfl rfl (by decide) (re_forcedL (M := 16383) (I := 2) rfl rfl (by decide) (re_forcedL (M := 16383) (I := 1) rfl rfl (by decide) (re_forcedL (M := 16383) (I := 0) rfl rfl (by decide) (re_nil)))))))))))))))), ?_⟩
        refine d_cl rfl rfl rfl (by simp only [evs, ev, envOf, val_set, ofValue, ofCell, ↓reduceIte, Nat.reduceEqDiff] <;> rfl) rfl (size_at ho W27 (ka := kx) (na := nx) (hx.ext ((((Ext.put W16 (((Ext.put W16 (((Ext.put W16 ((Ext.refl W16).trans X17) (by omega) K18 n18 W18).trans X19).trans X20) (by omega) K21 n21 W21).trans X22).trans X23) (by omega) K24 n24 W24).trans X25).trans X26).trans X27)) (by omega)) rfl ((wanted_of (b := false) rfl rfl rfl (by simp only [val_set, ↓reduceIte, Nat.reduceEqDiff] <;> rfl)).trans rfl) ?_; rintro _ H28 ⟨rfl, X28⟩
        have W28 := X28.wf; have E28 := E27.trans X28
        have A1 := X28.keep _ _ A1
        have A2 := X28.keep _ _ A2
        have A18 := X28.keep _ _ A18
        have A21 := X28.keep _ _ A21
        have A24 := X28.keep _ _ A24
        have n28 := X28.n
        refine ⟨re_same (r_move (by simp only [ev, envOf, val_set, ofValue, ofCell, ↓reduceIte, Nat.reduceEqDiff] <;> rfl)) (re_same (r_loadN (cs := [.int .i64 (kb), .int .i64 (nb), sb]) Ty.agg24 Ty.csz24 (by simp only [ev, envOf, val_set, ofValue, ofCell, ↓reduceIte, Nat.reduceEqDiff] <;> rfl) (read_mt A2 (Nat.le_of_ble_eq_true rfl))) (re_forcedL (M := 131071) (I := 16) rfl rfl (by decide) (re_forcedL (M := 131071) (I := 15) rfl rfl (by decide) (re_forcedL (M := 131071) (I := 13) rfl rfl (by decide) (re_forcedL (M := 131071) (I := 12) rfl rfl (by decide) (re_forcedL (M := 131071) (I := 10) rfl rfl (by decide) (re_forcedL (M := 131071) (I := 9) rfl rfl (by decide) (re_forcedL (M := 131071) (I := 8) rfl rfl (by decide) (re_forcedL (M := 131071) (I := 7) rfl rfl (by decide) (re_forcedL (M := 131071) (I := 6) rfl rfl (by decide) (re_forcedL (M := 131071) (I := 4) rfl rfl (by decide) (re_forcedL (M := 131071) (I := 3) rfl rfl (by decide) (re_forcedL (M := 131071) (I := 2) rfl rfl (by decide) (re_forcedL (M := 131071) (I := 1) rfl rfl (by decide) (re_forcedL (M := 131071) (I := 0) rfl rfl (by decide) (re_nil)))))))))))))))), ?_⟩
        refine d_rd rfl (r_subE (a := ((V.mk (ka) (na) la).cnt : Int)) (b := ((V.mk (kx) (nx) lx).cnt : Int)) (c := (((V.mk (ka) (na) la).cnt : Int) - ((V.mk (kx) (nx) lx).cnt : Int))) (by simp only [ev, envOf, val_set, ofValue, ofCell, ↓reduceIte, Nat.reduceEqDiff] <;> rfl) (by simp only [ev, envOf, val_set, ofValue, ofCell, ↓reduceIte, Nat.reduceEqDiff] <;> rfl) (by omega) (by omega) (by omega)) rfl ((wanted_of (b := false) rfl rfl rfl (by simp only [val_set, ↓reduceIte, Nat.reduceEqDiff] <;> rfl)).trans rfl) ?_
        refine d_cl rfl rfl rfl (by simp only [evs, ev, envOf, val_set, ofValue, ofCell, ↓reduceIte, Nat.reduceEqDiff] <;> rfl) rfl (size_at ho W28 (ka := kb) (na := nb) (hb.ext E28) (by omega)) rfl ((wanted_of (b := false) rfl rfl rfl (by simp only [val_set, ↓reduceIte, Nat.reduceEqDiff] <;> rfl)).trans rfl) ?_; rintro _ H29 ⟨rfl, X29⟩
        have W29 := X29.wf; have E29 := E28.trans X29
        have A1 := X29.keep _ _ A1
        have A2 := X29.keep _ _ A2
        have A18 := X29.keep _ _ A18
        have A21 := X29.keep _ _ A21
        have A24 := X29.keep _ _ A24
        have n29 := X29.n
        refine ⟨re_same (r_subE (a := ((V.mk (ka) (na) la).cnt : Int)) (b := ((V.mk (kx) (nx) lx).cnt : Int)) (c := (((V.mk (ka) (na) la).cnt : Int) - ((V.mk (kx) (nx) lx).cnt : Int))) (by simp only [ev, envOf, val_set, ofValue, ofCell, ↓reduceIte, Nat.reduceEqDiff] <;> rfl) (by simp only [ev, envOf, val_set, ofValue, ofCell, ↓reduceIte, Nat.reduceEqDiff] <;> rfl) (by omega) (by omega) (by omega)) (re_forcedL (M := 1835007) (I := 20) rfl rfl (by decide) (re_forcedL (M := 1835007) (I := 19) rfl rfl (by decide) (re_forcedL (M := 1835007) (I := 16) rfl rfl (by decide) (re_forcedL (M := 1835007) (I := 15) rfl rfl (by decide) (re_forcedL (M := 1835007) (I := 13) rfl rfl (by decide) (re_forcedL (M := 1835007) (I := 12) rfl rfl (by decide) (re_forcedL (M := 1835007) (I := 10) rfl rfl (by decide) (re_forcedL (M := 1835007) (I := 9) rfl rfl (by decide) (re_forcedL (M := 1835007) (I := 8) rfl rfl (by decide) (re_forcedL (M := 1835007) (I := 7) rfl rfl (by decide) (re_forcedL (M := 1835007) (I := 6) rfl rfl (by decide) (re_forcedL (M := 1835007) (I := 4) rfl rfl (by decide) (re_forcedL (M := 1835007) (I := 3) rfl rfl (by decide) (re_forcedL (M := 1835007) (I := 2) rfl rfl (by decide) (re_forcedL (M := 1835007) (I := 1) rfl rfl (by decide) (re_forcedL (M := 1835007) (I := 0) rfl rfl (by decide) (re_nil))))))))))))))))), ?_⟩
        refine d_rd rfl (r_addE (a := (((V.mk (ka) (na) la).cnt : Int) - ((V.mk (kx) (nx) lx).cnt : Int))) (b := ((V.mk (kb) (nb) lb).cnt : Int)) (c := ((((V.mk (ka) (na) la).cnt : Int) - ((V.mk (kx) (nx) lx).cnt : Int)) + ((V.mk (kb) (nb) lb).cnt : Int))) (by simp only [ev, envOf, val_set, ofValue, ofCell, ↓reduceIte, Nat.reduceEqDiff] <;> rfl) (by simp only [ev, envOf, val_set, ofValue, ofCell, ↓reduceIte, Nat.reduceEqDiff] <;> rfl) (by omega) (by omega) (by omega)) rfl ((wanted_of (b := false) rfl rfl rfl (by simp only [val_set, ↓reduceIte, Nat.reduceEqDiff] <;> rfl)).trans rfl) ?_
        refine d_rd rfl (r_ne (a := ((V.mk (kw) (nw) lw).cnt : Int)) (b := ((((V.mk (ka) (na) la).cnt : Int) - ((V.mk (kx) (nx) lx).cnt : Int)) + ((V.mk (kb) (nb) lb).cnt : Int))) (by simp only [ev, envOf, val_set, ofValue, ofCell, ↓reduceIte, Nat.reduceEqDiff] <;> rfl) (by simp only [ev, envOf, val_set, ofValue, ofCell, ↓reduceIte, Nat.reduceEqDiff] <;> rfl)) rfl ((wanted_of (b := false) rfl rfl rfl (by simp only [val_set, ↓reduceIte, Nat.reduceEqDiff] <;> rfl)).trans rfl) ?_
        refine d_rd rfl (r_pick (t := false) (by simp only [ev, envOf, val_set, ofValue, ofCell, ↓reduceIte, Nat.reduceEqDiff] <;> rfl) (fun h => by cases h) (fun _ => (by simp only [ev, envOf, val_set, ofValue, ofCell, ↓reduceIte, Nat.reduceEqDiff] <;> rfl))) rfl rfl ?_
        refine d_nil ?_
        refine w_cond (by simp only [ev, envOf, val_set, ofValue, ofCell, ↓reduceIte, Nat.reduceEqDiff] <;> rfl) (fun hc30 => ?_) (fun hc30 => ?_)
        · have hc30 := dec_t hc30
          refine w_seq ?_
          refine w_region ?_
          refine o_rd (r_assign (by simp only [ev, envOf, val_set, ofValue, ofCell, ↓reduceIte, Nat.reduceEqDiff] <;> rfl)) rfl rfl ?_
          refine o_nil ?_
          refine w_ret ⟨.inr rfl, rfl, .bool (false), (show resultA Try.prog [.tmp 8] _ = _ by simp only [resultA, resultsA, envOf, val_set, ↓reduceIte, Nat.reduceEqDiff, Option.map_some] <;> rfl), ?_⟩
          try dsimp only
          exact ⟨by first | rfl | (exfalso; omega), E29⟩
        · have hc30 := dec_fn hc30
          refine w_skip ?_
          refine w_seq ?_
          refine w_region ?_
          refine o_rd (r_loadN (cs := [.int .i64 (kw), .int .i64 (nw), sw]) Ty.agg24 Ty.csz24 (by simp only [ev, envOf, val_set, ofValue, ofCell, ↓reduceIte, Nat.reduceEqDiff] <;> rfl) (read_mt A21 (Nat.le_of_ble_eq_true rfl))) rfl rfl ?_
          refine o_rd (r_move (by simp only [ev, envOf, val_set, ofValue, ofCell, ↓reduceIte, Nat.reduceEqDiff] <;> rfl)) rfl rfl ?_
          refine o_rd (r_loadN (cs := [.int .i64 (kx), .int .i64 (nx), sx]) Ty.agg24 Ty.csz24 (by simp only [ev, envOf, val_set, ofValue, ofCell, ↓reduceIte, Nat.reduceEqDiff] <;> rfl) (read_mt A18 (Nat.le_of_ble_eq_true rfl))) rfl rfl ?_
          refine o_cl rfl rfl (by simp only [evs, ev, envOf, val_set, ofValue, ofCell, ↓reduceIte, Nat.reduceEqDiff] <;> rfl) rfl (with_at ho W29 (ka := kw) (na := nw) (kb := kx) (nb := nx) (hw.ext ((((((Ext.put W19 (((Ext.put W19 ((Ext.refl W19).trans X20) (by omega) K21 n21 W21).trans X22).trans X23) (by omega) K24 n24 W24).trans X25).trans X26).trans X27).trans X28).trans X29)) (hx.ext ((((((Ext.put W16 (((Ext.put W16 (((Ext.put W16 ((Ext.refl W16).trans X17) (by omega) K18 n18 W18).trans X19).trans X20) (by omega) K21 n21 W21).trans X22).trans X23) (by omega) K24 n24 W24).trans X25).trans X26).trans X27).trans X28).trans X29)) (hP.ext E29) (by omega) (by omega) hp1 hp2) rfl rfl ?_; rintro _ H31 ⟨sk, rfl, hk, X31⟩
          have W31 := X31.wf; have E31 := E29.trans X31
          have A1 := X31.keep _ _ A1
          have A2 := X31.keep _ _ A2
          have A18 := X31.keep _ _ A18
          have A21 := X31.keep _ _ A21
          have A24 := X31.keep _ _ A24
          have n31 := X31.n
          refine o_rd (r_move (by simp only [ev, envOf, val_set, ofValue, ofCell, ↓reduceIte, Nat.reduceEqDiff] <;> rfl)) rfl rfl ?_
          refine o_rd (r_extract (by simp only [ev, envOf, val_set, ofValue, ofCell, ↓reduceIte, Nat.reduceEqDiff] <;> rfl) rfl) rfl rfl ?_
          refine o_rd (r_extract (by simp only [ev, envOf, val_set, ofValue, ofCell, ↓reduceIte, Nat.reduceEqDiff] <;> rfl) rfl) rfl rfl ?_
          refine o_nw W31 (a_alloc Ty.zero24) rfl rfl rfl (by simp) ?_; intro H32 n32 W32 X32 A32
          have A32 : H32.at H31.n = some (.row [.int .i64 (0), .int .i64 (0), .nils] 24 false none) := A32
          have E32 := E31.trans X32
          have g32 : H0.n ≤ H31.n := E31.n
          have A1 := X32.keep _ _ A1
          have A2 := X32.keep _ _ A2
          have A18 := X32.keep _ _ A18
          have A21 := X32.keep _ _ A21
          have A24 := X32.keep _ _ A24
          refine o_st W32 (by simp only [ev, envOf, val_set, ofValue, ofCell, ↓reduceIte, Nat.reduceEqDiff] <;> rfl) (by simp only [ev, envOf, val_set, ofValue, ofCell, ↓reduceIte, Nat.reduceEqDiff] <;> rfl) A32 Ty.csz24 rfl (Nat.le_of_ble_eq_true rfl) (by first | rfl | exact ones3 (SA.one' hx) | exact ones3 (SA.one' hw) | exact ones3 (SA.one' hn) | exact ones3 (SA.one' hk) | exact ones3 (SA.one' hy) | exact ones3 (SA.one' hz)) rfl rfl ?_; intro H33 n33 W33 A33 K33
          have A33 : H33.at H31.n = some (.row [.int .i64 (ka), .int .i64 (na), sk] 24 false none) := A33
          have E33 := Ext.put W0 E32 (by have := E32.n; omega) K33 n33 W33
          have A1 := K33.own A1 (by omega)
          have A2 := K33.own A2 (by omega)
          have A18 := K33.own A18 (by omega)
          have A21 := K33.own A21 (by omega)
          have A24 := K33.own A24 (by omega)
          refine o_rd (r_assign (by simp only [ev, envOf, val_set, ofValue, ofCell, ↓reduceIte, Nat.reduceEqDiff] <;> rfl)) rfl rfl ?_
          refine o_nil ?_
          refine w_seq ?_
          refine w_seq ?_
          refine w_region ?_
          refine o_rd (r_move (by simp only [ev, envOf, val_set, ofValue, ofCell, ↓reduceIte, Nat.reduceEqDiff] <;> rfl)) rfl rfl ?_
          refine o_rd (r_not (by simp only [ev, envOf, val_set, ofValue, ofCell, ↓reduceIte, Nat.reduceEqDiff] <;> rfl)) rfl rfl ?_
          refine o_rd (r_move (by simp only [ev, envOf, val_set, ofValue, ofCell, ↓reduceIte, Nat.reduceEqDiff] <;> rfl)) rfl rfl ?_
          refine o_rd (r_loadN (cs := [.int .i64 (ka), .int .i64 (na), sk]) Ty.agg24 Ty.csz24 (by simp only [ev, envOf, val_set, ofValue, ofCell, ↓reduceIte, Nat.reduceEqDiff] <;> rfl) (read_mt A33 (Nat.le_of_ble_eq_true rfl))) rfl ((wanted_of (b := false) rfl rfl rfl (by simp only [val_set, ↓reduceIte, Nat.reduceEqDiff] <;> rfl)).trans rfl) ?_
          refine o_rd (r_loadN (cs := [.int .i64 (ka), .int .i64 (na), sa]) Ty.agg24 Ty.csz24 (by simp only [ev, envOf, val_set, ofValue, ofCell, ↓reduceIte, Nat.reduceEqDiff] <;> rfl) (read_mt A1 (Nat.le_of_ble_eq_true rfl))) rfl ((wanted_of (b := false) rfl rfl rfl (by simp only [val_set, ↓reduceIte, Nat.reduceEqDiff] <;> rfl)).trans rfl) ?_
          refine o_cl rfl rfl (by simp only [evs, ev, envOf, val_set, ofValue, ofCell, ↓reduceIte, Nat.reduceEqDiff] <;> rfl) rfl (same_selfP ho W33 (VA.mk (ka) (na) la _ (hk.ext (Ext.put W31 ((Ext.refl W31).trans X32) (by omega) K33 n33 W33))) (VA.mk (ka) (na) la _ (ha.ext E33))) rfl ((wanted_of (b := false) rfl rfl rfl (by simp only [val_set, ↓reduceIte, Nat.reduceEqDiff] <;> rfl)).trans rfl) ?_; rintro _ H34 ⟨rfl, X34⟩
          have W34 := X34.wf; have E34 := E33.trans X34
          have A1 := X34.keep _ _ A1
          have A2 := X34.keep _ _ A2
          have A18 := X34.keep _ _ A18
          have A21 := X34.keep _ _ A21
          have A24 := X34.keep _ _ A24
          have A33 := X34.keep _ _ A33
          have n34 := X34.n
          refine o_rd (r_not (by simp only [ev, envOf, val_set, ofValue, ofCell, ↓reduceIte, Nat.reduceEqDiff] <;> rfl)) rfl ((wanted_of (b := false) rfl rfl rfl (by simp only [val_set, ↓reduceIte, Nat.reduceEqDiff] <;> rfl)).trans rfl) ?_
          refine o_rd (r_pick (t := false) (by simp only [ev, envOf, val_set, ofValue, ofCell, ↓reduceIte, Nat.reduceEqDiff] <;> rfl) (fun h => by cases h) (fun _ => (by simp only [ev, envOf, val_set, ofValue, ofCell, ↓reduceIte, Nat.reduceEqDiff] <;> rfl))) rfl rfl ?_
          refine o_nil ?_
          refine w_cond (t := false) (by simp only [ev, envOf, val_set, ofValue, ofCell, ↓reduceIte, Nat.reduceEqDiff] <;> rfl) (fun h => by cases h) (fun _ => ?_)
          refine w_skip ?_
          refine w_seq ?_
          refine w_region ?_
          refine o_rd (r_assign (by simp only [ev, envOf, val_set, ofValue, ofCell, ↓reduceIte, Nat.reduceEqDiff] <;> rfl)) rfl rfl ?_
          refine o_nil ?_
          refine w_seq ?_
          refine w_seq ?_
          refine w_region ?_
          refine o_rd (r_assign (by simp only [ev, envOf, val_set, ofValue, ofCell, ↓reduceIte, Nat.reduceEqDiff] <;> rfl)) rfl rfl ?_
          refine o_nil ?_
          refine w_block ?_
          refine w_loop (fun m s => ∃ (e : Env) (H : AH) (i : Nat), s = ⟨e, H, []⟩ ∧ e.val 1 = sp ∧ e.val 3 = sq ∧ e.val 4 = .ptr (.mt (H0.n)) (0) ∧ e.val 8 = .bool (false) ∧ e.val 9 = .bool (true) ∧ e.val 12 = .ptr (.mt (H19.n)) (0) ∧ e.val 19 = .bool (apart (ps.take i) (qs.take i)) ∧ e.val 20 = .int .i64 (((i : Nat) : Int)) ∧ Wf H ∧ Ext H0 H ∧ H.at (H0.n) = some (.row [.int .i64 (ka), .int .i64 (na), sa] 24 false none) ∧ H.at (H1.n) = some (.row [.int .i64 (kb), .int .i64 (nb), sb] 24 false none) ∧ H.at (H16.n) = some (.row [.int .i64 (kx), .int .i64 (nx), sx] 24 false none) ∧ H.at (H19.n) = some (.row [.int .i64 (kw), .int .i64 (nw), sw] 24 false none) ∧ H.at (H22.n) = some (.row [.int .i64 (kb), .int .i64 (nb), sn] 24 false none) ∧ H.at (H31.n) = some (.row [.int .i64 (ka), .int .i64 (na), sk] 24 false none) ∧ (Ext H34 H) ∧ (i + m = ps.length)) (ps.length) ⟨_, H34, 0, rfl, (by simp only [val_set, ↓reduceIte, Nat.reduceEqDiff] <;> rfl), (by simp only [val_set, ↓reduceIte, Nat.reduceEqDiff] <;> rfl), (by simp only [val_set, ↓reduceIte, Nat.reduceEqDiff] <;> rfl), (by simp only [val_set, ↓reduceIte, Nat.reduceEqDiff] <;> rfl), (by simp only [val_set, ↓reduceIte, Nat.reduceEqDiff] <;> rfl), (by simp only [val_set, ↓reduceIte, Nat.reduceEqDiff] <;> rfl), (by simp only [val_set, ↓reduceIte, Nat.reduceEqDiff]; simp [apart]), (by simp only [val_set, ↓reduceIte, Nat.reduceEqDiff] <;> rfl), W34, E34, A1, A2, A18, A21, A24, A33, (Ext.refl W34), by omega⟩ ?_
          intro m s hi
          obtain ⟨e, H35, i, rfl, v1, v3, v4, v8, v9, v12, v19, v20, W35, E35, A1, A2, A18, A21, A24, A33, EW, him⟩ := hi
          have l35_0 := W35.lt A1
          have l35_1 := W35.lt A2
          have l35_2 := W35.lt A18
          have l35_3 := W35.lt A21
          have l35_4 := W35.lt A24
          have l35_5 := W35.lt A33
          have nEW := EW.n
          refine w_seq ?_
          refine w_seq ?_
          refine w_region ?_
          refine o_rd (r_move (by simp only [ev, envOf, val_set, ofValue, ofCell, ↓reduceIte, Nat.reduceEqDiff, v1, v3, v4, v8, v9, v12, v19, v20] <;> rfl)) rfl rfl ?_
          refine o_rd (r_move (by simp only [ev, envOf, val_set, ofValue, ofCell, ↓reduceIte, Nat.reduceEqDiff, v1, v3, v4, v8, v9, v12, v19, v20] <;> rfl)) rfl rfl ?_
          refine o_rd (r_len (n := ps.length) Try.underlying28 (by simp only [ev, envOf, val_set, ofValue, ofCell, ↓reduceIte, Nat.reduceEqDiff, v1, v3, v4, v8, v9, v12, v19, v20] <;> rfl) hP.lenOf) rfl rfl ?_
          refine o_rd (r_lt (a := ((i : Nat) : Int)) (b := ((ps.length : Nat) : Int)) (by simp only [ev, envOf, val_set, ofValue, ofCell, ↓reduceIte, Nat.reduceEqDiff, v1, v3, v4, v8, v9, v12, v19, v20] <;> rfl) (by simp only [ev, envOf, val_set, ofValue, ofCell, ↓reduceIte, Nat.reduceEqDiff, v1, v3, v4, v8, v9, v12, v19, v20] <;> rfl)) rfl rfl ?_
          refine o_rd (r_move (by simp only [ev, envOf, val_set, ofValue, ofCell, ↓reduceIte, Nat.reduceEqDiff, v1, v3, v4, v8, v9, v12, v19, v20] <;> rfl)) rfl rfl ?_
          cases hg36 : (decide (((i : Nat) : Int) < ((ps.length : Nat) : Int)) : Bool)
          · have hg36 := dec_f hg36
            refine o_sk rfl ((wanted_of (b := false) rfl rfl rfl (by simp only [val_set, ↓reduceIte, Nat.reduceEqDiff, v1, v3, v4, v8, v9, v12, v19, v20] <;> rfl)).trans rfl) ?_
            refine o_sk rfl ((wanted_of (b := false) rfl rfl rfl (by simp only [val_set, ↓reduceIte, Nat.reduceEqDiff, v1, v3, v4, v8, v9, v12, v19, v20] <;> rfl)).trans rfl) ?_
            refine o_sk rfl ((wanted_of (b := false) rfl rfl rfl (by simp only [val_set, ↓reduceIte, Nat.reduceEqDiff, v1, v3, v4, v8, v9, v12, v19, v20] <;> rfl)).trans rfl) ?_
            refine o_sk rfl ((wanted_of (b := false) rfl rfl rfl (by simp only [val_set, ↓reduceIte, Nat.reduceEqDiff, v1, v3, v4, v8, v9, v12, v19, v20] <;> rfl)).trans rfl) ?_
            refine o_rd (r_pick (t := false) (by simp only [ev, envOf, val_set, ofValue, ofCell, ↓reduceIte, Nat.reduceEqDiff, v1, v3, v4, v8, v9, v12, v19, v20] <;> rfl) (fun h => by cases h) (fun _ => (by simp only [ev, envOf, val_set, ofValue, ofCell, ↓reduceIte, Nat.reduceEqDiff, v1, v3, v4, v8, v9, v12, v19, v20] <;> rfl))) rfl rfl ?_
            refine o_nil ?_
            refine w_cond (t := false) (by simp only [ev, envOf, val_set, ofValue, ofCell, ↓reduceIte, Nat.reduceEqDiff, v1, v3, v4, v8, v9, v12, v19, v20] <;> rfl) (fun h => by cases h) (fun _ => ?_)
            refine w_exit (blk_exit ?_)
            refine w_seq ?_
            refine w_region ?_
            rw [apart_all (by omega)] at v19
            refine o_rd (r_loadN (cs := [.int .i64 (ka), .int .i64 (na), sa]) Ty.agg24 Ty.csz24 (by simp only [ev, envOf, val_set, ofValue, ofCell, ↓reduceIte, Nat.reduceEqDiff, v1, v3, v4, v8, v9, v12, v19, v20] <;> rfl) (read_mt A1 (Nat.le_of_ble_eq_true rfl))) rfl rfl ?_
            refine o_rd (r_move (by simp only [ev, envOf, val_set, ofValue, ofCell, ↓reduceIte, Nat.reduceEqDiff, v1, v3, v4, v8, v9, v12, v19, v20] <;> rfl)) rfl rfl ?_
            cases hap : apart ps qs
            · rw [hap] at v19
              rcases hov : partV (V.mk ka na la) qs with _ | y
              · skip
                refine o_cl rfl rfl (by simp only [evs, ev, envOf, val_set, ofValue, ofCell, ↓reduceIte, Nat.reduceEqDiff, v1, v3, v4, v8, v9, v12, v19, v20] <;> rfl) rfl (part_not ho W35 (ka := ka) (na := na) (ha.ext E35) (hQ.ext E35) (by omega) hov) rfl rfl ?_; rintro _ H37 ⟨rfl, X37⟩
                have W37 := X37.wf; have E37 := E35.trans X37
                have A1 := X37.keep _ _ A1
                have A2 := X37.keep _ _ A2
                have A18 := X37.keep _ _ A18
                have A21 := X37.keep _ _ A21
                have A24 := X37.keep _ _ A24
                have A33 := X37.keep _ _ A33
                have n37 := X37.n
                refine o_rd (r_move (by simp only [ev, envOf, val_set, ofValue, ofCell, ↓reduceIte, Nat.reduceEqDiff, v1, v3, v4, v8, v9, v12, v19, v20] <;> rfl)) rfl rfl ?_
                refine o_rd (r_extract (by simp only [ev, envOf, val_set, ofValue, ofCell, ↓reduceIte, Nat.reduceEqDiff, v1, v3, v4, v8, v9, v12, v19, v20] <;> rfl) rfl) rfl rfl ?_
                refine o_rd (r_extract (by simp only [ev, envOf, val_set, ofValue, ofCell, ↓reduceIte, Nat.reduceEqDiff, v1, v3, v4, v8, v9, v12, v19, v20] <;> rfl) rfl) rfl rfl ?_
                refine o_nw W37 (a_alloc Ty.zero24) rfl rfl rfl (by simp) ?_; intro H38 n38 W38 X38 A38
                have A38 : H38.at H37.n = some (.row [.int .i64 (0), .int .i64 (0), .nils] 24 false none) := A38
                have E38 := E37.trans X38
                have g38 : H0.n ≤ H37.n := E37.n
                have A1 := X38.keep _ _ A1
                have A2 := X38.keep _ _ A2
                have A18 := X38.keep _ _ A18
                have A21 := X38.keep _ _ A21
                have A24 := X38.keep _ _ A24
                have A33 := X38.keep _ _ A33
                refine o_st W38 (by simp only [ev, envOf, val_set, ofValue, ofCell, ↓reduceIte, Nat.reduceEqDiff, v1, v3, v4, v8, v9, v12, v19, v20] <;> rfl) (by simp only [ev, envOf, val_set, ofValue, ofCell, ↓reduceIte, Nat.reduceEqDiff, v1, v3, v4, v8, v9, v12, v19, v20] <;> rfl) A38 Ty.csz24 rfl (Nat.le_of_ble_eq_true rfl) (by first | rfl | exact ones3 (SA.one' hx) | exact ones3 (SA.one' hw) | exact ones3 (SA.one' hn) | exact ones3 (SA.one' hk) | exact ones3 (SA.one' hy) | exact ones3 (SA.one' hz)) rfl rfl ?_; intro H39 n39 W39 A39 K39
                have A39 : H39.at H37.n = some (.row [.int .i64 (0), .int .i64 (0), .nils] 24 false none) := A39
                have E39 := Ext.put W0 E38 (by have := E38.n; omega) K39 n39 W39
                have A1 := K39.own A1 (by omega)
                have A2 := K39.own A2 (by omega)
                have A18 := K39.own A18 (by omega)
                have A21 := K39.own A21 (by omega)
                have A24 := K39.own A24 (by omega)
                have A33 := K39.own A33 (by omega)
                refine o_rd (r_assign (by simp only [ev, envOf, val_set, ofValue, ofCell, ↓reduceIte, Nat.reduceEqDiff, v1, v3, v4, v8, v9, v12, v19, v20] <;> rfl)) rfl rfl ?_
                refine o_nil ?_
                refine w_seq ?_
                refine w_region ?_
                refine o_rd (r_loadN (cs := [.int .i64 (kw), .int .i64 (nw), sw]) Ty.agg24 Ty.csz24 (by simp only [ev, envOf, val_set, ofValue, ofCell, ↓reduceIte, Nat.reduceEqDiff, v1, v3, v4, v8, v9, v12, v19, v20] <;> rfl) (read_mt A21 (Nat.le_of_ble_eq_true rfl))) rfl rfl ?_
                refine o_rd (r_move (by simp only [ev, envOf, val_set, ofValue, ofCell, ↓reduceIte, Nat.reduceEqDiff, v1, v3, v4, v8, v9, v12, v19, v20] <;> rfl)) rfl rfl ?_
                rcases how : partV (V.mk kw nw lw) qs with _ | z
                · skip
                  refine o_cl rfl rfl (by simp only [evs, ev, envOf, val_set, ofValue, ofCell, ↓reduceIte, Nat.reduceEqDiff, v1, v3, v4, v8, v9, v12, v19, v20] <;> rfl) rfl (part_not ho W39 (ka := kw) (na := nw) (hw.ext (Ext.put W19 (((((Ext.put W19 ((((((((Ext.put W19 (((Ext.put W19 ((Ext.refl W19).trans X20) (by omega) K21 n21 W21).trans X22).trans X23) (by omega) K24 n24 W24).trans X25).trans X26).trans X27).trans X28).trans X29).trans X31).trans X32) (by omega) K33 n33 W33).trans X34).trans EW).trans X37).trans X38) (by omega) K39 n39 W39)) (hQ.ext E39) (by omega) how) rfl rfl ?_; rintro _ H40 ⟨rfl, X40⟩
                  have W40 := X40.wf; have E40 := E39.trans X40
                  have A1 := X40.keep _ _ A1
                  have A2 := X40.keep _ _ A2
                  have A18 := X40.keep _ _ A18
                  have A21 := X40.keep _ _ A21
                  have A24 := X40.keep _ _ A24
                  have A33 := X40.keep _ _ A33
                  have A39 := X40.keep _ _ A39
                  have n40 := X40.n
                  refine o_rd (r_move (by simp only [ev, envOf, val_set, ofValue, ofCell, ↓reduceIte, Nat.reduceEqDiff, v1, v3, v4, v8, v9, v12, v19, v20] <;> rfl)) rfl rfl ?_
                  refine o_rd (r_extract (by simp only [ev, envOf, val_set, ofValue, ofCell, ↓reduceIte, Nat.reduceEqDiff, v1, v3, v4, v8, v9, v12, v19, v20] <;> rfl) rfl) rfl rfl ?_
                  refine o_rd (r_extract (by simp only [ev, envOf, val_set, ofValue, ofCell, ↓reduceIte, Nat.reduceEqDiff, v1, v3, v4, v8, v9, v12, v19, v20] <;> rfl) rfl) rfl rfl ?_
                  refine o_nw W40 (a_alloc Ty.zero24) rfl rfl rfl (by simp) ?_; intro H41 n41 W41 X41 A41
                  have A41 : H41.at H40.n = some (.row [.int .i64 (0), .int .i64 (0), .nils] 24 false none) := A41
                  have E41 := E40.trans X41
                  have g41 : H0.n ≤ H40.n := E40.n
                  have A1 := X41.keep _ _ A1
                  have A2 := X41.keep _ _ A2
                  have A18 := X41.keep _ _ A18
                  have A21 := X41.keep _ _ A21
                  have A24 := X41.keep _ _ A24
                  have A33 := X41.keep _ _ A33
                  have A39 := X41.keep _ _ A39
                  refine o_st W41 (by simp only [ev, envOf, val_set, ofValue, ofCell, ↓reduceIte, Nat.reduceEqDiff, v1, v3, v4, v8, v9, v12, v19, v20] <;> rfl) (by simp only [ev, envOf, val_set, ofValue, ofCell, ↓reduceIte, Nat.reduceEqDiff, v1, v3, v4, v8, v9, v12, v19, v20] <;> rfl) A41 Ty.csz24 rfl (Nat.le_of_ble_eq_true rfl) (by first | rfl | exact ones3 (SA.one' hx) | exact ones3 (SA.one' hw) | exact ones3 (SA.one' hn) | exact ones3 (SA.one' hk) | exact ones3 (SA.one' hy) | exact ones3 (SA.one' hz)) rfl rfl ?_; intro H42 n42 W42 A42 K42
                  have A42 : H42.at H40.n = some (.row [.int .i64 (0), .int .i64 (0), .nils] 24 false none) := A42
                  have E42 := Ext.put W0 E41 (by have := E41.n; omega) K42 n42 W42
                  have A1 := K42.own A1 (by omega)
                  have A2 := K42.own A2 (by omega)
                  have A18 := K42.own A18 (by omega)
                  have A21 := K42.own A21 (by omega)
                  have A24 := K42.own A24 (by omega)
                  have A33 := K42.own A33 (by omega)
                  have A39 := K42.own A39 (by omega)
                  refine o_rd (r_assign (by simp only [ev, envOf, val_set, ofValue, ofCell, ↓reduceIte, Nat.reduceEqDiff, v1, v3, v4, v8, v9, v12, v19, v20] <;> rfl)) rfl rfl ?_
                  refine o_nil ?_
                  refine w_seq ?_
                  refine w_region ?_
                  refine o_rd (r_move (by simp only [ev, envOf, val_set, ofValue, ofCell, ↓reduceIte, Nat.reduceEqDiff, v1, v3, v4, v8, v9, v12, v19, v20] <;> rfl)) rfl rfl ?_
                  refine o_rd (r_move (by simp only [ev, envOf, val_set, ofValue, ofCell, ↓reduceIte, Nat.reduceEqDiff, v1, v3, v4, v8, v9, v12, v19, v20] <;> rfl)) rfl rfl ?_
                  refine o_rd (r_move (by simp only [ev, envOf, val_set, ofValue, ofCell, ↓reduceIte, Nat.reduceEqDiff, v1, v3, v4, v8, v9, v12, v19, v20] <;> rfl)) rfl ((wanted_of (b := true) rfl rfl rfl (by simp only [val_set, ↓reduceIte, Nat.reduceEqDiff, v1, v3, v4, v8, v9, v12, v19, v20] <;> rfl)).trans rfl) ?_
                  refine o_rd (r_not (by simp only [ev, envOf, val_set, ofValue, ofCell, ↓reduceIte, Nat.reduceEqDiff, v1, v3, v4, v8, v9, v12, v19, v20] <;> rfl)) rfl ((wanted_of (b := true) rfl rfl rfl (by simp only [val_set, ↓reduceIte, Nat.reduceEqDiff, v1, v3, v4, v8, v9, v12, v19, v20] <;> rfl)).trans rfl) ?_
                  refine o_rd (r_move (by simp only [ev, envOf, val_set, ofValue, ofCell, ↓reduceIte, Nat.reduceEqDiff, v1, v3, v4, v8, v9, v12, v19, v20] <;> rfl)) rfl ((wanted_of (b := true) rfl rfl rfl (by simp only [val_set, ↓reduceIte, Nat.reduceEqDiff, v1, v3, v4, v8, v9, v12, v19, v20] <;> rfl)).trans rfl) ?_
                  refine o_sk rfl ((wanted_of (b := true) rfl rfl rfl (by simp only [val_set, ↓reduceIte, Nat.reduceEqDiff, v1, v3, v4, v8, v9, v12, v19, v20] <;> rfl)).trans rfl) ?_
                  refine o_sk rfl ((wanted_of (b := true) rfl rfl rfl (by simp only [val_set, ↓reduceIte, Nat.reduceEqDiff, v1, v3, v4, v8, v9, v12, v19, v20] <;> rfl)).trans rfl) ?_
                  refine o_sk rfl ((wanted_of (b := true) rfl rfl rfl (by simp only [val_set, ↓reduceIte, Nat.reduceEqDiff, v1, v3, v4, v8, v9, v12, v19, v20] <;> rfl)).trans rfl) ?_
                  refine o_sk rfl ((wanted_of (b := true) rfl rfl rfl (by simp only [val_set, ↓reduceIte, Nat.reduceEqDiff, v1, v3, v4, v8, v9, v12, v19, v20] <;> rfl)).trans rfl) ?_
                  refine o_sk rfl (wanted_no rfl rfl rfl (by simp only [val_set, ↓reduceIte, Nat.reduceEqDiff, v1, v3, v4, v8, v9, v12, v19, v20] <;> rfl)) ?_
                  refine o_sk rfl (wanted_no rfl rfl rfl (by simp only [val_set, ↓reduceIte, Nat.reduceEqDiff, v1, v3, v4, v8, v9, v12, v19, v20] <;> rfl)) ?_
                  refine o_sk rfl (wanted_no rfl rfl rfl (by simp only [val_set, ↓reduceIte, Nat.reduceEqDiff, v1, v3, v4, v8, v9, v12, v19, v20] <;> rfl)) ?_
                  refine o_sk rfl ((wanted_of (b := true) rfl rfl rfl (by simp only [val_set, ↓reduceIte, Nat.reduceEqDiff, v1, v3, v4, v8, v9, v12, v19, v20] <;> rfl)).trans rfl) ?_
                  refine o_rd (r_pick (t := true) (by simp only [ev, envOf, val_set, ofValue, ofCell, ↓reduceIte, Nat.reduceEqDiff, v1, v3, v4, v8, v9, v12, v19, v20] <;> rfl) (fun _ => (by simp only [ev, envOf, val_set, ofValue, ofCell, ↓reduceIte, Nat.reduceEqDiff, v1, v3, v4, v8, v9, v12, v19, v20] <;> rfl)) (fun h => by cases h)) rfl ((wanted_of (b := true) rfl rfl rfl (by simp only [val_set, ↓reduceIte, Nat.reduceEqDiff, v1, v3, v4, v8, v9, v12, v19, v20] <;> rfl)).trans rfl) ?_
                  refine o_rd (r_pick (t := true) (by simp only [ev, envOf, val_set, ofValue, ofCell, ↓reduceIte, Nat.reduceEqDiff, v1, v3, v4, v8, v9, v12, v19, v20] <;> rfl) (fun _ => (by simp only [ev, envOf, val_set, ofValue, ofCell, ↓reduceIte, Nat.reduceEqDiff, v1, v3, v4, v8, v9, v12, v19, v20] <;> rfl)) (fun h => by cases h)) rfl rfl ?_
                  refine o_rd (r_assign (by simp only [ev, envOf, val_set, ofValue, ofCell, ↓reduceIte, Nat.reduceEqDiff, v1, v3, v4, v8, v9, v12, v19, v20] <;> rfl)) rfl rfl ?_
                  refine o_nil ?_
                  refine w_ret ⟨.inr rfl, rfl, .bool (true), (show resultA Try.prog [.tmp 8] _ = _ by simp only [resultA, resultsA, envOf, val_set, ↓reduceIte, Nat.reduceEqDiff, Option.map_some, v1, v3, v4, v8, v9, v12, v19, v20] <;> rfl), ?_⟩
                  try dsimp only
                  exact ⟨by first | rfl | (exfalso; omega), E42⟩
                · obtain ⟨kz, nz, lz⟩ := z
                  refine o_cl rfl rfl (by simp only [evs, ev, envOf, val_set, ofValue, ofCell, ↓reduceIte, Nat.reduceEqDiff, v1, v3, v4, v8, v9, v12, v19, v20] <;> rfl) rfl (part_at ho W39 (ka := kw) (na := nw) (hw.ext (Ext.put W19 (((((Ext.put W19 ((((((((Ext.put W19 (((Ext.put W19 ((Ext.refl W19).trans X20) (by omega) K21 n21 W21).trans X22).trans X23) (by omega) K24 n24 W24).trans X25).trans X26).trans X27).trans X28).trans X29).trans X31).trans X32) (by omega) K33 n33 W33).trans X34).trans EW).trans X37).trans X38) (by omega) K39 n39 W39)) (hQ.ext E39) (by omega) how) rfl rfl ?_; rintro _ H43 ⟨sz, rfl, hz, X43⟩
                  have W43 := X43.wf; have E43 := E39.trans X43
                  have A1 := X43.keep _ _ A1
                  have A2 := X43.keep _ _ A2
                  have A18 := X43.keep _ _ A18
                  have A21 := X43.keep _ _ A21
                  have A24 := X43.keep _ _ A24
                  have A33 := X43.keep _ _ A33
                  have A39 := X43.keep _ _ A39
                  have n43 := X43.n
                  refine o_rd (r_move (by simp only [ev, envOf, val_set, ofValue, ofCell, ↓reduceIte, Nat.reduceEqDiff, v1, v3, v4, v8, v9, v12, v19, v20] <;> rfl)) rfl rfl ?_
                  refine o_rd (r_extract (by simp only [ev, envOf, val_set, ofValue, ofCell, ↓reduceIte, Nat.reduceEqDiff, v1, v3, v4, v8, v9, v12, v19, v20] <;> rfl) rfl) rfl rfl ?_
                  refine o_rd (r_extract (by simp only [ev, envOf, val_set, ofValue, ofCell, ↓reduceIte, Nat.reduceEqDiff, v1, v3, v4, v8, v9, v12, v19, v20] <;> rfl) rfl) rfl rfl ?_
                  refine o_nw W43 (a_alloc Ty.zero24) rfl rfl rfl (by simp) ?_; intro H44 n44 W44 X44 A44
                  have A44 : H44.at H43.n = some (.row [.int .i64 (0), .int .i64 (0), .nils] 24 false none) := A44
                  have E44 := E43.trans X44
                  have g44 : H0.n ≤ H43.n := E43.n
                  have A1 := X44.keep _ _ A1
                  have A2 := X44.keep _ _ A2
                  have A18 := X44.keep _ _ A18
                  have A21 := X44.keep _ _ A21
                  have A24 := X44.keep _ _ A24
                  have A33 := X44.keep _ _ A33
                  have A39 := X44.keep _ _ A39
                  refine o_st W44 (by simp only [ev, envOf, val_set, ofValue, ofCell, ↓reduceIte, Nat.reduceEqDiff, v1, v3, v4, v8, v9, v12, v19, v20] <;> rfl) (by simp only [ev, envOf, val_set, ofValue, ofCell, ↓reduceIte, Nat.reduceEqDiff, v1, v3, v4, v8, v9, v12, v19, v20] <;> rfl) A44 Ty.csz24 rfl (Nat.le_of_ble_eq_true rfl) (by first | rfl | exact ones3 (SA.one' hx) | exact ones3 (SA.one' hw) | exact ones3 (SA.one' hn) | exact ones3 (SA.one' hk) | exact ones3 (SA.one' hy) | exact ones3 (SA.one' hz)) rfl rfl ?_; intro H45 n45 W45 A45 K45
                  have A45 : H45.at H43.n = some (.row [.int .i64 (kz), .int .i64 (nz), sz] 24 false none) := A45
                  have E45 := Ext.put W0 E44 (by have := E44.n; omega) K45 n45 W45
                  have A1 := K45.own A1 (by omega)
                  have A2 := K45.own A2 (by omega)
                  have A18 := K45.own A18 (by omega)
                  have A21 := K45.own A21 (by omega)
                  have A24 := K45.own A24 (by omega)
                  have A33 := K45.own A33 (by omega)
                  have A39 := K45.own A39 (by omega)
                  refine o_rd (r_assign (by simp only [ev, envOf, val_set, ofValue, ofCell, ↓reduceIte, Nat.reduceEqDiff, v1, v3, v4, v8, v9, v12, v19, v20] <;> rfl)) rfl rfl ?_
                  refine o_nil ?_
                  refine w_seq ?_
                  refine w_region ?_
                  refine o_rd (r_move (by simp only [ev, envOf, val_set, ofValue, ofCell, ↓reduceIte, Nat.reduceEqDiff, v1, v3, v4, v8, v9, v12, v19, v20] <;> rfl)) rfl rfl ?_
                  refine o_rd (r_move (by simp only [ev, envOf, val_set, ofValue, ofCell, ↓reduceIte, Nat.reduceEqDiff, v1, v3, v4, v8, v9, v12, v19, v20] <;> rfl)) rfl rfl ?_
                  refine o_rd (r_move (by simp only [ev, envOf, val_set, ofValue, ofCell, ↓reduceIte, Nat.reduceEqDiff, v1, v3, v4, v8, v9, v12, v19, v20] <;> rfl)) rfl ((wanted_of (b := true) rfl rfl rfl (by simp only [val_set, ↓reduceIte, Nat.reduceEqDiff, v1, v3, v4, v8, v9, v12, v19, v20] <;> rfl)).trans rfl) ?_
                  refine o_rd (r_not (by simp only [ev, envOf, val_set, ofValue, ofCell, ↓reduceIte, Nat.reduceEqDiff, v1, v3, v4, v8, v9, v12, v19, v20] <;> rfl)) rfl ((wanted_of (b := true) rfl rfl rfl (by simp only [val_set, ↓reduceIte, Nat.reduceEqDiff, v1, v3, v4, v8, v9, v12, v19, v20] <;> rfl)).trans rfl) ?_
                  refine o_rd (r_move (by simp only [ev, envOf, val_set, ofValue, ofCell, ↓reduceIte, Nat.reduceEqDiff, v1, v3, v4, v8, v9, v12, v19, v20] <;> rfl)) rfl ((wanted_of (b := true) rfl rfl rfl (by simp only [val_set, ↓reduceIte, Nat.reduceEqDiff, v1, v3, v4, v8, v9, v12, v19, v20] <;> rfl)).trans rfl) ?_
                  refine o_sk rfl ((wanted_of (b := true) rfl rfl rfl (by simp only [val_set, ↓reduceIte, Nat.reduceEqDiff, v1, v3, v4, v8, v9, v12, v19, v20] <;> rfl)).trans rfl) ?_
                  refine o_sk rfl ((wanted_of (b := true) rfl rfl rfl (by simp only [val_set, ↓reduceIte, Nat.reduceEqDiff, v1, v3, v4, v8, v9, v12, v19, v20] <;> rfl)).trans rfl) ?_
                  refine o_sk rfl ((wanted_of (b := true) rfl rfl rfl (by simp only [val_set, ↓reduceIte, Nat.reduceEqDiff, v1, v3, v4, v8, v9, v12, v19, v20] <;> rfl)).trans rfl) ?_
                  refine o_sk rfl ((wanted_of (b := true) rfl rfl rfl (by simp only [val_set, ↓reduceIte, Nat.reduceEqDiff, v1, v3, v4, v8, v9, v12, v19, v20] <;> rfl)).trans rfl) ?_
                  refine o_sk rfl (wanted_no rfl rfl rfl (by simp only [val_set, ↓reduceIte, Nat.reduceEqDiff, v1, v3, v4, v8, v9, v12, v19, v20] <;> rfl)) ?_
                  refine o_sk rfl (wanted_no rfl rfl rfl (by simp only [val_set, ↓reduceIte, Nat.reduceEqDiff, v1, v3, v4, v8, v9, v12, v19, v20] <;> rfl)) ?_
                  refine o_sk rfl (wanted_no rfl rfl rfl (by simp only [val_set, ↓reduceIte, Nat.reduceEqDiff, v1, v3, v4, v8, v9, v12, v19, v20] <;> rfl)) ?_
                  refine o_sk rfl ((wanted_of (b := true) rfl rfl rfl (by simp only [val_set, ↓reduceIte, Nat.reduceEqDiff, v1, v3, v4, v8, v9, v12, v19, v20] <;> rfl)).trans rfl) ?_
                  refine o_rd (r_pick (t := true) (by simp only [ev, envOf, val_set, ofValue, ofCell, ↓reduceIte, Nat.reduceEqDiff, v1, v3, v4, v8, v9, v12, v19, v20] <;> rfl) (fun _ => (by simp only [ev, envOf, val_set, ofValue, ofCell, ↓reduceIte, Nat.reduceEqDiff, v1, v3, v4, v8, v9, v12, v19, v20] <;> rfl)) (fun h => by cases h)) rfl ((wanted_of (b := true) rfl rfl rfl (by simp only [val_set, ↓reduceIte, Nat.reduceEqDiff, v1, v3, v4, v8, v9, v12, v19, v20] <;> rfl)).trans rfl) ?_
                  refine o_rd (r_pick (t := true) (by simp only [ev, envOf, val_set, ofValue, ofCell, ↓reduceIte, Nat.reduceEqDiff, v1, v3, v4, v8, v9, v12, v19, v20] <;> rfl) (fun _ => (by simp only [ev, envOf, val_set, ofValue, ofCell, ↓reduceIte, Nat.reduceEqDiff, v1, v3, v4, v8, v9, v12, v19, v20] <;> rfl)) (fun h => by cases h)) rfl rfl ?_
                  refine o_rd (r_assign (by simp only [ev, envOf, val_set, ofValue, ofCell, ↓reduceIte, Nat.reduceEqDiff, v1, v3, v4, v8, v9, v12, v19, v20] <;> rfl)) rfl rfl ?_
                  refine o_nil ?_
                  refine w_ret ⟨.inr rfl, rfl, .bool (true), (show resultA Try.prog [.tmp 8] _ = _ by simp only [resultA, resultsA, envOf, val_set, ↓reduceIte, Nat.reduceEqDiff, Option.map_some, v1, v3, v4, v8, v9, v12, v19, v20] <;> rfl), ?_⟩
                  try dsimp only
                  exact ⟨by first | rfl | (exfalso; omega), E45⟩
              · obtain ⟨ky, ny, ly⟩ := y
                refine o_cl rfl rfl (by simp only [evs, ev, envOf, val_set, ofValue, ofCell, ↓reduceIte, Nat.reduceEqDiff, v1, v3, v4, v8, v9, v12, v19, v20] <;> rfl) rfl (part_at ho W35 (ka := ka) (na := na) (ha.ext E35) (hQ.ext E35) (by omega) hov) rfl rfl ?_; rintro _ H46 ⟨sy, rfl, hy, X46⟩
                have W46 := X46.wf; have E46 := E35.trans X46
                have A1 := X46.keep _ _ A1
                have A2 := X46.keep _ _ A2
                have A18 := X46.keep _ _ A18
                have A21 := X46.keep _ _ A21
                have A24 := X46.keep _ _ A24
                have A33 := X46.keep _ _ A33
                have n46 := X46.n
                refine o_rd (r_move (by simp only [ev, envOf, val_set, ofValue, ofCell, ↓reduceIte, Nat.reduceEqDiff, v1, v3, v4, v8, v9, v12, v19, v20] <;> rfl)) rfl rfl ?_
                refine o_rd (r_extract (by simp only [ev, envOf, val_set, ofValue, ofCell, ↓reduceIte, Nat.reduceEqDiff, v1, v3, v4, v8, v9, v12, v19, v20] <;> rfl) rfl) rfl rfl ?_
                refine o_rd (r_extract (by simp only [ev, envOf, val_set, ofValue, ofCell, ↓reduceIte, Nat.reduceEqDiff, v1, v3, v4, v8, v9, v12, v19, v20] <;> rfl) rfl) rfl rfl ?_
                refine o_nw W46 (a_alloc Ty.zero24) rfl rfl rfl (by simp) ?_; intro H47 n47 W47 X47 A47
                have A47 : H47.at H46.n = some (.row [.int .i64 (0), .int .i64 (0), .nils] 24 false none) := A47
                have E47 := E46.trans X47
                have g47 : H0.n ≤ H46.n := E46.n
                have A1 := X47.keep _ _ A1
                have A2 := X47.keep _ _ A2
                have A18 := X47.keep _ _ A18
                have A21 := X47.keep _ _ A21
                have A24 := X47.keep _ _ A24
                have A33 := X47.keep _ _ A33
                refine o_st W47 (by simp only [ev, envOf, val_set, ofValue, ofCell, ↓reduceIte, Nat.reduceEqDiff, v1, v3, v4, v8, v9, v12, v19, v20] <;> rfl) (by simp only [ev, envOf, val_set, ofValue, ofCell, ↓reduceIte, Nat.reduceEqDiff, v1, v3, v4, v8, v9, v12, v19, v20] <;> rfl) A47 Ty.csz24 rfl (Nat.le_of_ble_eq_true rfl) (by first | rfl | exact ones3 (SA.one' hx) | exact ones3 (SA.one' hw) | exact ones3 (SA.one' hn) | exact ones3 (SA.one' hk) | exact ones3 (SA.one' hy) | exact ones3 (SA.one' hz)) rfl rfl ?_; intro H48 n48 W48 A48 K48
                have A48 : H48.at H46.n = some (.row [.int .i64 (ky), .int .i64 (ny), sy] 24 false none) := A48
                have E48 := Ext.put W0 E47 (by have := E47.n; omega) K48 n48 W48
                have A1 := K48.own A1 (by omega)
                have A2 := K48.own A2 (by omega)
                have A18 := K48.own A18 (by omega)
                have A21 := K48.own A21 (by omega)
                have A24 := K48.own A24 (by omega)
                have A33 := K48.own A33 (by omega)
                refine o_rd (r_assign (by simp only [ev, envOf, val_set, ofValue, ofCell, ↓reduceIte, Nat.reduceEqDiff, v1, v3, v4, v8, v9, v12, v19, v20] <;> rfl)) rfl rfl ?_
                refine o_nil ?_
                refine w_seq ?_
                refine w_region ?_
                refine o_rd (r_loadN (cs := [.int .i64 (kw), .int .i64 (nw), sw]) Ty.agg24 Ty.csz24 (by simp only [ev, envOf, val_set, ofValue, ofCell, ↓reduceIte, Nat.reduceEqDiff, v1, v3, v4, v8, v9, v12, v19, v20] <;> rfl) (read_mt A21 (Nat.le_of_ble_eq_true rfl))) rfl rfl ?_
                refine o_rd (r_move (by simp only [ev, envOf, val_set, ofValue, ofCell, ↓reduceIte, Nat.reduceEqDiff, v1, v3, v4, v8, v9, v12, v19, v20] <;> rfl)) rfl rfl ?_
                rcases how : partV (V.mk kw nw lw) qs with _ | z
                · skip
                  refine o_cl rfl rfl (by simp only [evs, ev, envOf, val_set, ofValue, ofCell, ↓reduceIte, Nat.reduceEqDiff, v1, v3, v4, v8, v9, v12, v19, v20] <;> rfl) rfl (part_not ho W48 (ka := kw) (na := nw) (hw.ext (Ext.put W19 (((((Ext.put W19 ((((((((Ext.put W19 (((Ext.put W19 ((Ext.refl W19).trans X20) (by omega) K21 n21 W21).trans X22).trans X23) (by omega) K24 n24 W24).trans X25).trans X26).trans X27).trans X28).trans X29).trans X31).trans X32) (by omega) K33 n33 W33).trans X34).trans EW).trans X46).trans X47) (by omega) K48 n48 W48)) (hQ.ext E48) (by omega) how) rfl rfl ?_; rintro _ H49 ⟨rfl, X49⟩
                  have W49 := X49.wf; have E49 := E48.trans X49
                  have A1 := X49.keep _ _ A1
                  have A2 := X49.keep _ _ A2
                  have A18 := X49.keep _ _ A18
                  have A21 := X49.keep _ _ A21
                  have A24 := X49.keep _ _ A24
                  have A33 := X49.keep _ _ A33
                  have A48 := X49.keep _ _ A48
                  have n49 := X49.n
                  refine o_rd (r_move (by simp only [ev, envOf, val_set, ofValue, ofCell, ↓reduceIte, Nat.reduceEqDiff, v1, v3, v4, v8, v9, v12, v19, v20] <;> rfl)) rfl rfl ?_
                  refine o_rd (r_extract (by simp only [ev, envOf, val_set, ofValue, ofCell, ↓reduceIte, Nat.reduceEqDiff, v1, v3, v4, v8, v9, v12, v19, v20] <;> rfl) rfl) rfl rfl ?_
                  refine o_rd (r_extract (by simp only [ev, envOf, val_set, ofValue, ofCell, ↓reduceIte, Nat.reduceEqDiff, v1, v3, v4, v8, v9, v12, v19, v20] <;> rfl) rfl) rfl rfl ?_
                  refine o_nw W49 (a_alloc Ty.zero24) rfl rfl rfl (by simp) ?_; intro H50 n50 W50 X50 A50
                  have A50 : H50.at H49.n = some (.row [.int .i64 (0), .int .i64 (0), .nils] 24 false none) := A50
                  have E50 := E49.trans X50
                  have g50 : H0.n ≤ H49.n := E49.n
                  have A1 := X50.keep _ _ A1
                  have A2 := X50.keep _ _ A2
                  have A18 := X50.keep _ _ A18
                  have A21 := X50.keep _ _ A21
                  have A24 := X50.keep _ _ A24
                  have A33 := X50.keep _ _ A33
                  have A48 := X50.keep _ _ A48
                  refine o_st W50 (by simp only [ev, envOf, val_set, ofValue, ofCell, ↓reduceIte, Nat.reduceEqDiff, v1, v3, v4, v8, v9, v12, v19, v20] <;> rfl) (by simp only [ev, envOf, val_set, ofValue, ofCell, ↓reduceIte, Nat.reduceEqDiff, v1, v3, v4, v8, v9, v12, v19, v20] <;> rfl) A50 Ty.csz24 rfl (Nat.le_of_ble_eq_true rfl) (by first | rfl | exact ones3 (SA.one' hx) | exact ones3 (SA.one' hw) | exact ones3 (SA.one' hn) | exact ones3 (SA.one' hk) | exact ones3 (SA.one' hy) | exact ones3 (SA.one' hz)) rfl rfl ?_; intro H51 n51 W51 A51 K51
                  have A51 : H51.at H49.n = some (.row [.int .i64 (0), .int .i64 (0), .nils] 24 false none) := A51
                  have E51 := Ext.put W0 E50 (by have := E50.n; omega) K51 n51 W51
                  have A1 := K51.own A1 (by omega)
                  have A2 := K51.own A2 (by omega)
                  have A18 := K51.own A18 (by omega)
                  have A21 := K51.own A21 (by omega)
                  have A24 := K51.own A24 (by omega)
                  have A33 := K51.own A33 (by omega)
                  have A48 := K51.own A48 (by omega)
                  refine o_rd (r_assign (by simp only [ev, envOf, val_set, ofValue, ofCell, ↓reduceIte, Nat.reduceEqDiff, v1, v3, v4, v8, v9, v12, v19, v20] <;> rfl)) rfl rfl ?_
                  refine o_nil ?_
                  refine w_seq ?_
                  refine w_region ?_
                  refine o_rd (r_move (by simp only [ev, envOf, val_set, ofValue, ofCell, ↓reduceIte, Nat.reduceEqDiff, v1, v3, v4, v8, v9, v12, v19, v20] <;> rfl)) rfl rfl ?_
                  refine o_rd (r_move (by simp only [ev, envOf, val_set, ofValue, ofCell, ↓reduceIte, Nat.reduceEqDiff, v1, v3, v4, v8, v9, v12, v19, v20] <;> rfl)) rfl rfl ?_
                  refine o_rd (r_move (by simp only [ev, envOf, val_set, ofValue, ofCell, ↓reduceIte, Nat.reduceEqDiff, v1, v3, v4, v8, v9, v12, v19, v20] <;> rfl)) rfl ((wanted_of (b := true) rfl rfl rfl (by simp only [val_set, ↓reduceIte, Nat.reduceEqDiff, v1, v3, v4, v8, v9, v12, v19, v20] <;> rfl)).trans rfl) ?_
                  refine o_rd (r_not (by simp only [ev, envOf, val_set, ofValue, ofCell, ↓reduceIte, Nat.reduceEqDiff, v1, v3, v4, v8, v9, v12, v19, v20] <;> rfl)) rfl ((wanted_of (b := true) rfl rfl rfl (by simp only [val_set, ↓reduceIte, Nat.reduceEqDiff, v1, v3, v4, v8, v9, v12, v19, v20] <;> rfl)).trans rfl) ?_
                  refine o_rd (r_move (by simp only [ev, envOf, val_set, ofValue, ofCell, ↓reduceIte, Nat.reduceEqDiff, v1, v3, v4, v8, v9, v12, v19, v20] <;> rfl)) rfl ((wanted_of (b := true) rfl rfl rfl (by simp only [val_set, ↓reduceIte, Nat.reduceEqDiff, v1, v3, v4, v8, v9, v12, v19, v20] <;> rfl)).trans rfl) ?_
                  refine o_sk rfl ((wanted_of (b := true) rfl rfl rfl (by simp only [val_set, ↓reduceIte, Nat.reduceEqDiff, v1, v3, v4, v8, v9, v12, v19, v20] <;> rfl)).trans rfl) ?_
                  refine o_sk rfl ((wanted_of (b := true) rfl rfl rfl (by simp only [val_set, ↓reduceIte, Nat.reduceEqDiff, v1, v3, v4, v8, v9, v12, v19, v20] <;> rfl)).trans rfl) ?_
                  refine o_sk rfl ((wanted_of (b := true) rfl rfl rfl (by simp only [val_set, ↓reduceIte, Nat.reduceEqDiff, v1, v3, v4, v8, v9, v12, v19, v20] <;> rfl)).trans rfl) ?_
                  refine o_sk rfl ((wanted_of (b := true) rfl rfl rfl (by simp only [val_set, ↓reduceIte, Nat.reduceEqDiff, v1, v3, v4, v8, v9, v12, v19, v20] <;> rfl)).trans rfl) ?_
                  refine o_sk rfl (wanted_no rfl rfl rfl (by simp only [val_set, ↓reduceIte, Nat.reduceEqDiff, v1, v3, v4, v8, v9, v12, v19, v20] <;> rfl)) ?_
                  refine o_sk rfl (wanted_no rfl rfl rfl (by simp only [val_set, ↓reduceIte, Nat.reduceEqDiff, v1, v3, v4, v8, v9, v12, v19, v20] <;> rfl)) ?_
                  refine o_sk rfl (wanted_no rfl rfl rfl (by simp only [val_set, ↓reduceIte, Nat.reduceEqDiff, v1, v3, v4, v8, v9, v12, v19, v20] <;> rfl)) ?_
                  refine o_sk rfl ((wanted_of (b := true) rfl rfl rfl (by simp only [val_set, ↓reduceIte, Nat.reduceEqDiff, v1, v3, v4, v8, v9, v12, v19, v20] <;> rfl)).trans rfl) ?_
                  refine o_rd (r_pick (t := true) (by simp only [ev, envOf, val_set, ofValue, ofCell, ↓reduceIte, Nat.reduceEqDiff, v1, v3, v4, v8, v9, v12, v19, v20] <;> rfl) (fun _ => (by simp only [ev, envOf, val_set, ofValue, ofCell, ↓reduceIte, Nat.reduceEqDiff, v1, v3, v4, v8, v9, v12, v19, v20] <;> rfl)) (fun h => by cases h)) rfl ((wanted_of (b := true) rfl rfl rfl (by simp only [val_set, ↓reduceIte, Nat.reduceEqDiff, v1, v3, v4, v8, v9, v12, v19, v20] <;> rfl)).trans rfl) ?_
                  refine o_rd (r_pick (t := true) (by simp only [ev, envOf, val_set, ofValue, ofCell, ↓reduceIte, Nat.reduceEqDiff, v1, v3, v4, v8, v9, v12, v19, v20] <;> rfl) (fun _ => (by simp only [ev, envOf, val_set, ofValue, ofCell, ↓reduceIte, Nat.reduceEqDiff, v1, v3, v4, v8, v9, v12, v19, v20] <;> rfl)) (fun h => by cases h)) rfl rfl ?_
                  refine o_rd (r_assign (by simp only [ev, envOf, val_set, ofValue, ofCell, ↓reduceIte, Nat.reduceEqDiff, v1, v3, v4, v8, v9, v12, v19, v20] <;> rfl)) rfl rfl ?_
                  refine o_nil ?_
                  refine w_ret ⟨.inr rfl, rfl, .bool (true), (show resultA Try.prog [.tmp 8] _ = _ by simp only [resultA, resultsA, envOf, val_set, ↓reduceIte, Nat.reduceEqDiff, Option.map_some, v1, v3, v4, v8, v9, v12, v19, v20] <;> rfl), ?_⟩
                  try dsimp only
                  exact ⟨by first | rfl | (exfalso; omega), E51⟩
                · obtain ⟨kz, nz, lz⟩ := z
                  refine o_cl rfl rfl (by simp only [evs, ev, envOf, val_set, ofValue, ofCell, ↓reduceIte, Nat.reduceEqDiff, v1, v3, v4, v8, v9, v12, v19, v20] <;> rfl) rfl (part_at ho W48 (ka := kw) (na := nw) (hw.ext (Ext.put W19 (((((Ext.put W19 ((((((((Ext.put W19 (((Ext.put W19 ((Ext.refl W19).trans X20) (by omega) K21 n21 W21).trans X22).trans X23) (by omega) K24 n24 W24).trans X25).trans X26).trans X27).trans X28).trans X29).trans X31).trans X32) (by omega) K33 n33 W33).trans X34).trans EW).trans X46).trans X47) (by omega) K48 n48 W48)) (hQ.ext E48) (by omega) how) rfl rfl ?_; rintro _ H52 ⟨sz, rfl, hz, X52⟩
                  have W52 := X52.wf; have E52 := E48.trans X52
                  have A1 := X52.keep _ _ A1
                  have A2 := X52.keep _ _ A2
                  have A18 := X52.keep _ _ A18
                  have A21 := X52.keep _ _ A21
                  have A24 := X52.keep _ _ A24
                  have A33 := X52.keep _ _ A33
                  have A48 := X52.keep _ _ A48
                  have n52 := X52.n
                  refine o_rd (r_move (by simp only [ev, envOf, val_set, ofValue, ofCell, ↓reduceIte, Nat.reduceEqDiff, v1, v3, v4, v8, v9, v12, v19, v20] <;> rfl)) rfl rfl ?_
                  refine o_rd (r_extract (by simp only [ev, envOf, val_set, ofValue, ofCell, ↓reduceIte, Nat.reduceEqDiff, v1, v3, v4, v8, v9, v12, v19, v20] <;> rfl) rfl) rfl rfl ?_
                  refine o_rd (r_extract (by simp only [ev, envOf, val_set, ofValue, ofCell, ↓reduceIte, Nat.reduceEqDiff, v1, v3, v4, v8, v9, v12, v19, v20] <;> rfl) rfl) rfl rfl ?_
                  refine o_nw W52 (a_alloc Ty.zero24) rfl rfl rfl (by simp) ?_; intro H53 n53 W53 X53 A53
                  have A53 : H53.at H52.n = some (.row [.int .i64 (0), .int .i64 (0), .nils] 24 false none) := A53
                  have E53 := E52.trans X53
                  have g53 : H0.n ≤ H52.n := E52.n
                  have A1 := X53.keep _ _ A1
                  have A2 := X53.keep _ _ A2
                  have A18 := X53.keep _ _ A18
                  have A21 := X53.keep _ _ A21
                  have A24 := X53.keep _ _ A24
                  have A33 := X53.keep _ _ A33
                  have A48 := X53.keep _ _ A48
                  refine o_st W53 (by simp only [ev, envOf, val_set, ofValue, ofCell, ↓reduceIte, Nat.reduceEqDiff, v1, v3, v4, v8, v9, v12, v19, v20] <;> rfl) (by simp only [ev, envOf, val_set, ofValue, ofCell, ↓reduceIte, Nat.reduceEqDiff, v1, v3, v4, v8, v9, v12, v19, v20] <;> rfl) A53 Ty.csz24 rfl (Nat.le_of_ble_eq_true rfl) (by first | rfl | exact ones3 (SA.one' hx) | exact ones3 (SA.one' hw) | exact ones3 (SA.one' hn) | exact ones3 (SA.one' hk) | exact ones3 (SA.one' hy) | exact ones3 (SA.one' hz)) rfl rfl ?_; intro H54 n54 W54 A54 K54
                  have A54 : H54.at H52.n = some (.row [.int .i64 (kz), .int .i64 (nz), sz] 24 false none) := A54
                  have E54 := Ext.put W0 E53 (by have := E53.n; omega) K54 n54 W54
                  have A1 := K54.own A1 (by omega)
                  have A2 := K54.own A2 (by omega)
                  have A18 := K54.own A18 (by omega)
                  have A21 := K54.own A21 (by omega)
                  have A24 := K54.own A24 (by omega)
                  have A33 := K54.own A33 (by omega)
                  have A48 := K54.own A48 (by omega)
                  refine o_rd (r_assign (by simp only [ev, envOf, val_set, ofValue, ofCell, ↓reduceIte, Nat.reduceEqDiff, v1, v3, v4, v8, v9, v12, v19, v20] <;> rfl)) rfl rfl ?_
                  refine o_nil ?_
                  refine w_seq ?_
                  refine w_region ?_
                  refine o_rd (r_move (by simp only [ev, envOf, val_set, ofValue, ofCell, ↓reduceIte, Nat.reduceEqDiff, v1, v3, v4, v8, v9, v12, v19, v20] <;> rfl)) rfl rfl ?_
                  refine o_rd (r_move (by simp only [ev, envOf, val_set, ofValue, ofCell, ↓reduceIte, Nat.reduceEqDiff, v1, v3, v4, v8, v9, v12, v19, v20] <;> rfl)) rfl rfl ?_
                  refine o_rd (r_move (by simp only [ev, envOf, val_set, ofValue, ofCell, ↓reduceIte, Nat.reduceEqDiff, v1, v3, v4, v8, v9, v12, v19, v20] <;> rfl)) rfl ((wanted_of (b := true) rfl rfl rfl (by simp only [val_set, ↓reduceIte, Nat.reduceEqDiff, v1, v3, v4, v8, v9, v12, v19, v20] <;> rfl)).trans rfl) ?_
                  refine o_rd (r_not (by simp only [ev, envOf, val_set, ofValue, ofCell, ↓reduceIte, Nat.reduceEqDiff, v1, v3, v4, v8, v9, v12, v19, v20] <;> rfl)) rfl ((wanted_of (b := true) rfl rfl rfl (by simp only [val_set, ↓reduceIte, Nat.reduceEqDiff, v1, v3, v4, v8, v9, v12, v19, v20] <;> rfl)).trans rfl) ?_
                  refine o_rd (r_move (by simp only [ev, envOf, val_set, ofValue, ofCell, ↓reduceIte, Nat.reduceEqDiff, v1, v3, v4, v8, v9, v12, v19, v20] <;> rfl)) rfl ((wanted_of (b := true) rfl rfl rfl (by simp only [val_set, ↓reduceIte, Nat.reduceEqDiff, v1, v3, v4, v8, v9, v12, v19, v20] <;> rfl)).trans rfl) ?_
                  refine o_sk rfl ((wanted_of (b := true) rfl rfl rfl (by simp only [val_set, ↓reduceIte, Nat.reduceEqDiff, v1, v3, v4, v8, v9, v12, v19, v20] <;> rfl)).trans rfl) ?_
                  refine o_sk rfl ((wanted_of (b := true) rfl rfl rfl (by simp only [val_set, ↓reduceIte, Nat.reduceEqDiff, v1, v3, v4, v8, v9, v12, v19, v20] <;> rfl)).trans rfl) ?_
                  refine o_sk rfl ((wanted_of (b := true) rfl rfl rfl (by simp only [val_set, ↓reduceIte, Nat.reduceEqDiff, v1, v3, v4, v8, v9, v12, v19, v20] <;> rfl)).trans rfl) ?_
                  refine o_sk rfl ((wanted_of (b := true) rfl rfl rfl (by simp only [val_set, ↓reduceIte, Nat.reduceEqDiff, v1, v3, v4, v8, v9, v12, v19, v20] <;> rfl)).trans rfl) ?_
                  refine o_sk rfl (wanted_no rfl rfl rfl (by simp only [val_set, ↓reduceIte, Nat.reduceEqDiff, v1, v3, v4, v8, v9, v12, v19, v20] <;> rfl)) ?_
                  refine o_sk rfl (wanted_no rfl rfl rfl (by simp only [val_set, ↓reduceIte, Nat.reduceEqDiff, v1, v3, v4, v8, v9, v12, v19, v20] <;> rfl)) ?_
                  refine o_sk rfl (wanted_no rfl rfl rfl (by simp only [val_set, ↓reduceIte, Nat.reduceEqDiff, v1, v3, v4, v8, v9, v12, v19, v20] <;> rfl)) ?_
                  refine o_sk rfl ((wanted_of (b := true) rfl rfl rfl (by simp only [val_set, ↓reduceIte, Nat.reduceEqDiff, v1, v3, v4, v8, v9, v12, v19, v20] <;> rfl)).trans rfl) ?_
                  refine o_rd (r_pick (t := true) (by simp only [ev, envOf, val_set, ofValue, ofCell, ↓reduceIte, Nat.reduceEqDiff, v1, v3, v4, v8, v9, v12, v19, v20] <;> rfl) (fun _ => (by simp only [ev, envOf, val_set, ofValue, ofCell, ↓reduceIte, Nat.reduceEqDiff, v1, v3, v4, v8, v9, v12, v19, v20] <;> rfl)) (fun h => by cases h)) rfl ((wanted_of (b := true) rfl rfl rfl (by simp only [val_set, ↓reduceIte, Nat.reduceEqDiff, v1, v3, v4, v8, v9, v12, v19, v20] <;> rfl)).trans rfl) ?_
                  refine o_rd (r_pick (t := true) (by simp only [ev, envOf, val_set, ofValue, ofCell, ↓reduceIte, Nat.reduceEqDiff, v1, v3, v4, v8, v9, v12, v19, v20] <;> rfl) (fun _ => (by simp only [ev, envOf, val_set, ofValue, ofCell, ↓reduceIte, Nat.reduceEqDiff, v1, v3, v4, v8, v9, v12, v19, v20] <;> rfl)) (fun h => by cases h)) rfl rfl ?_
                  refine o_rd (r_assign (by simp only [ev, envOf, val_set, ofValue, ofCell, ↓reduceIte, Nat.reduceEqDiff, v1, v3, v4, v8, v9, v12, v19, v20] <;> rfl)) rfl rfl ?_
                  refine o_nil ?_
                  refine w_ret ⟨.inr rfl, rfl, .bool (true), (show resultA Try.prog [.tmp 8] _ = _ by simp only [resultA, resultsA, envOf, val_set, ↓reduceIte, Nat.reduceEqDiff, Option.map_some, v1, v3, v4, v8, v9, v12, v19, v20] <;> rfl), ?_⟩
                  try dsimp only
                  exact ⟨by first | rfl | (exfalso; omega), E54⟩
            · rw [hap] at v19
              rcases hov : partV (V.mk ka na la) qs with _ | y
              · have how := (hp4 qs hap).trans hov
                refine o_cl rfl rfl (by simp only [evs, ev, envOf, val_set, ofValue, ofCell, ↓reduceIte, Nat.reduceEqDiff, v1, v3, v4, v8, v9, v12, v19, v20] <;> rfl) rfl (part_not ho W35 (ka := ka) (na := na) (ha.ext E35) (hQ.ext E35) (by omega) hov) rfl rfl ?_; rintro _ H55 ⟨rfl, X55⟩
                have W55 := X55.wf; have E55 := E35.trans X55
                have A1 := X55.keep _ _ A1
                have A2 := X55.keep _ _ A2
                have A18 := X55.keep _ _ A18
                have A21 := X55.keep _ _ A21
                have A24 := X55.keep _ _ A24
                have A33 := X55.keep _ _ A33
                have n55 := X55.n
                refine o_rd (r_move (by simp only [ev, envOf, val_set, ofValue, ofCell, ↓reduceIte, Nat.reduceEqDiff, v1, v3, v4, v8, v9, v12, v19, v20] <;> rfl)) rfl rfl ?_
                refine o_rd (r_extract (by simp only [ev, envOf, val_set, ofValue, ofCell, ↓reduceIte, Nat.reduceEqDiff, v1, v3, v4, v8, v9, v12, v19, v20] <;> rfl) rfl) rfl rfl ?_
                refine o_rd (r_extract (by simp only [ev, envOf, val_set, ofValue, ofCell, ↓reduceIte, Nat.reduceEqDiff, v1, v3, v4, v8, v9, v12, v19, v20] <;> rfl) rfl) rfl rfl ?_
                refine o_nw W55 (a_alloc Ty.zero24) rfl rfl rfl (by simp) ?_; intro H56 n56 W56 X56 A56
                have A56 : H56.at H55.n = some (.row [.int .i64 (0), .int .i64 (0), .nils] 24 false none) := A56
                have E56 := E55.trans X56
                have g56 : H0.n ≤ H55.n := E55.n
                have A1 := X56.keep _ _ A1
                have A2 := X56.keep _ _ A2
                have A18 := X56.keep _ _ A18
                have A21 := X56.keep _ _ A21
                have A24 := X56.keep _ _ A24
                have A33 := X56.keep _ _ A33
                refine o_st W56 (by simp only [ev, envOf, val_set, ofValue, ofCell, ↓reduceIte, Nat.reduceEqDiff, v1, v3, v4, v8, v9, v12, v19, v20] <;> rfl) (by simp only [ev, envOf, val_set, ofValue, ofCell, ↓reduceIte, Nat.reduceEqDiff, v1, v3, v4, v8, v9, v12, v19, v20] <;> rfl) A56 Ty.csz24 rfl (Nat.le_of_ble_eq_true rfl) (by first | rfl | exact ones3 (SA.one' hx) | exact ones3 (SA.one' hw) | exact ones3 (SA.one' hn) | exact ones3 (SA.one' hk) | exact ones3 (SA.one' hy) | exact ones3 (SA.one' hz)) rfl rfl ?_; intro H57 n57 W57 A57 K57
                have A57 : H57.at H55.n = some (.row [.int .i64 (0), .int .i64 (0), .nils] 24 false none) := A57
                have E57 := Ext.put W0 E56 (by have := E56.n; omega) K57 n57 W57
                have A1 := K57.own A1 (by omega)
                have A2 := K57.own A2 (by omega)
                have A18 := K57.own A18 (by omega)
                have A21 := K57.own A21 (by omega)
                have A24 := K57.own A24 (by omega)
                have A33 := K57.own A33 (by omega)
                refine o_rd (r_assign (by simp only [ev, envOf, val_set, ofValue, ofCell, ↓reduceIte, Nat.reduceEqDiff, v1, v3, v4, v8, v9, v12, v19, v20] <;> rfl)) rfl rfl ?_
                refine o_nil ?_
                refine w_seq ?_
                refine w_region ?_
                refine o_rd (r_loadN (cs := [.int .i64 (kw), .int .i64 (nw), sw]) Ty.agg24 Ty.csz24 (by simp only [ev, envOf, val_set, ofValue, ofCell, ↓reduceIte, Nat.reduceEqDiff, v1, v3, v4, v8, v9, v12, v19, v20] <;> rfl) (read_mt A21 (Nat.le_of_ble_eq_true rfl))) rfl rfl ?_
                refine o_rd (r_move (by simp only [ev, envOf, val_set, ofValue, ofCell, ↓reduceIte, Nat.reduceEqDiff, v1, v3, v4, v8, v9, v12, v19, v20] <;> rfl)) rfl rfl ?_
                refine o_cl rfl rfl (by simp only [evs, ev, envOf, val_set, ofValue, ofCell, ↓reduceIte, Nat.reduceEqDiff, v1, v3, v4, v8, v9, v12, v19, v20] <;> rfl) rfl (part_not ho W57 (ka := kw) (na := nw) (hw.ext (Ext.put W19 (((((Ext.put W19 ((((((((Ext.put W19 (((Ext.put W19 ((Ext.refl W19).trans X20) (by omega) K21 n21 W21).trans X22).trans X23) (by omega) K24 n24 W24).trans X25).trans X26).trans X27).trans X28).trans X29).trans X31).trans X32) (by omega) K33 n33 W33).trans X34).trans EW).trans X55).trans X56) (by omega) K57 n57 W57)) (hQ.ext E57) (by omega) how) rfl rfl ?_; rintro _ H58 ⟨rfl, X58⟩
                have W58 := X58.wf; have E58 := E57.trans X58
                have A1 := X58.keep _ _ A1
                have A2 := X58.keep _ _ A2
                have A18 := X58.keep _ _ A18
                have A21 := X58.keep _ _ A21
                have A24 := X58.keep _ _ A24
                have A33 := X58.keep _ _ A33
                have A57 := X58.keep _ _ A57
                have n58 := X58.n
                refine o_rd (r_move (by simp only [ev, envOf, val_set, ofValue, ofCell, ↓reduceIte, Nat.reduceEqDiff, v1, v3, v4, v8, v9, v12, v19, v20] <;> rfl)) rfl rfl ?_
                refine o_rd (r_extract (by simp only [ev, envOf, val_set, ofValue, ofCell, ↓reduceIte, Nat.reduceEqDiff, v1, v3, v4, v8, v9, v12, v19, v20] <;> rfl) rfl) rfl rfl ?_
                refine o_rd (r_extract (by simp only [ev, envOf, val_set, ofValue, ofCell, ↓reduceIte, Nat.reduceEqDiff, v1, v3, v4, v8, v9, v12, v19, v20] <;> rfl) rfl) rfl rfl ?_
                refine o_nw W58 (a_alloc Ty.zero24) rfl rfl rfl (by simp) ?_; intro H59 n59 W59 X59 A59
                have A59 : H59.at H58.n = some (.row [.int .i64 (0), .int .i64 (0), .nils] 24 false none) := A59
                have E59 := E58.trans X59
                have g59 : H0.n ≤ H58.n := E58.n
                have A1 := X59.keep _ _ A1
                have A2 := X59.keep _ _ A2
                have A18 := X59.keep _ _ A18
                have A21 := X59.keep _ _ A21
                have A24 := X59.keep _ _ A24
                have A33 := X59.keep _ _ A33
                have A57 := X59.keep _ _ A57
                refine o_st W59 (by simp only [ev, envOf, val_set, ofValue, ofCell, ↓reduceIte, Nat.reduceEqDiff, v1, v3, v4, v8, v9, v12, v19, v20] <;> rfl) (by simp only [ev, envOf, val_set, ofValue, ofCell, ↓reduceIte, Nat.reduceEqDiff, v1, v3, v4, v8, v9, v12, v19, v20] <;> rfl) A59 Ty.csz24 rfl (Nat.le_of_ble_eq_true rfl) (by first | rfl | exact ones3 (SA.one' hx) | exact ones3 (SA.one' hw) | exact ones3 (SA.one' hn) | exact ones3 (SA.one' hk) | exact ones3 (SA.one' hy) | exact ones3 (SA.one' hz)) rfl rfl ?_; intro H60 n60 W60 A60 K60
                have A60 : H60.at H58.n = some (.row [.int .i64 (0), .int .i64 (0), .nils] 24 false none) := A60
                have E60 := Ext.put W0 E59 (by have := E59.n; omega) K60 n60 W60
                have A1 := K60.own A1 (by omega)
                have A2 := K60.own A2 (by omega)
                have A18 := K60.own A18 (by omega)
                have A21 := K60.own A21 (by omega)
                have A24 := K60.own A24 (by omega)
                have A33 := K60.own A33 (by omega)
                have A57 := K60.own A57 (by omega)
                refine o_rd (r_assign (by simp only [ev, envOf, val_set, ofValue, ofCell, ↓reduceIte, Nat.reduceEqDiff, v1, v3, v4, v8, v9, v12, v19, v20] <;> rfl)) rfl rfl ?_
                refine o_nil ?_
                refine w_seq ?_
                refine w_region ?_
                refine o_rd (r_move (by simp only [ev, envOf, val_set, ofValue, ofCell, ↓reduceIte, Nat.reduceEqDiff, v1, v3, v4, v8, v9, v12, v19, v20] <;> rfl)) rfl rfl ?_
                refine o_rd (r_move (by simp only [ev, envOf, val_set, ofValue, ofCell, ↓reduceIte, Nat.reduceEqDiff, v1, v3, v4, v8, v9, v12, v19, v20] <;> rfl)) rfl rfl ?_
                refine o_rd (r_move (by simp only [ev, envOf, val_set, ofValue, ofCell, ↓reduceIte, Nat.reduceEqDiff, v1, v3, v4, v8, v9, v12, v19, v20] <;> rfl)) rfl ((wanted_of (b := true) rfl rfl rfl (by simp only [val_set, ↓reduceIte, Nat.reduceEqDiff, v1, v3, v4, v8, v9, v12, v19, v20] <;> rfl)).trans rfl) ?_
                refine o_rd (r_not (by simp only [ev, envOf, val_set, ofValue, ofCell, ↓reduceIte, Nat.reduceEqDiff, v1, v3, v4, v8, v9, v12, v19, v20] <;> rfl)) rfl ((wanted_of (b := true) rfl rfl rfl (by simp only [val_set, ↓reduceIte, Nat.reduceEqDiff, v1, v3, v4, v8, v9, v12, v19, v20] <;> rfl)).trans rfl) ?_
                refine o_rd (r_move (by simp only [ev, envOf, val_set, ofValue, ofCell, ↓reduceIte, Nat.reduceEqDiff, v1, v3, v4, v8, v9, v12, v19, v20] <;> rfl)) rfl ((wanted_of (b := true) rfl rfl rfl (by simp only [val_set, ↓reduceIte, Nat.reduceEqDiff, v1, v3, v4, v8, v9, v12, v19, v20] <;> rfl)).trans rfl) ?_
                refine o_rd (r_move (by simp only [ev, envOf, val_set, ofValue, ofCell, ↓reduceIte, Nat.reduceEqDiff, v1, v3, v4, v8, v9, v12, v19, v20] <;> rfl)) rfl ((wanted_of (b := false) rfl rfl rfl (by simp only [val_set, ↓reduceIte, Nat.reduceEqDiff, v1, v3, v4, v8, v9, v12, v19, v20] <;> rfl)).trans rfl) ?_
                refine o_rd (r_move (by simp only [ev, envOf, val_set, ofValue, ofCell, ↓reduceIte, Nat.reduceEqDiff, v1, v3, v4, v8, v9, v12, v19, v20] <;> rfl)) rfl ((wanted_of (b := false) rfl rfl rfl (by simp only [val_set, ↓reduceIte, Nat.reduceEqDiff, v1, v3, v4, v8, v9, v12, v19, v20] <;> rfl)).trans rfl) ?_
                refine o_rd (r_eqB Try.underlying4 (by simp only [ev, envOf, val_set, ofValue, ofCell, ↓reduceIte, Nat.reduceEqDiff, v1, v3, v4, v8, v9, v12, v19, v20] <;> rfl) (by simp only [ev, envOf, val_set, ofValue, ofCell, ↓reduceIte, Nat.reduceEqDiff, v1, v3, v4, v8, v9, v12, v19, v20] <;> rfl)) rfl ((wanted_of (b := false) rfl rfl rfl (by simp only [val_set, ↓reduceIte, Nat.reduceEqDiff, v1, v3, v4, v8, v9, v12, v19, v20] <;> rfl)).trans rfl) ?_
                refine o_rd (r_move (by simp only [ev, envOf, val_set, ofValue, ofCell, ↓reduceIte, Nat.reduceEqDiff, v1, v3, v4, v8, v9, v12, v19, v20] <;> rfl)) rfl ((wanted_of (b := false) rfl rfl rfl (by simp only [val_set, ↓reduceIte, Nat.reduceEqDiff, v1, v3, v4, v8, v9, v12, v19, v20] <;> rfl)).trans rfl) ?_
                refine o_rd (r_loadN (cs := [.int .i64 (0), .int .i64 (0), .nils]) Ty.agg24 Ty.csz24 (by simp only [ev, envOf, val_set, ofValue, ofCell, ↓reduceIte, Nat.reduceEqDiff, v1, v3, v4, v8, v9, v12, v19, v20] <;> rfl) (read_mt A57 (Nat.le_of_ble_eq_true rfl))) rfl ((wanted_of (b := true) rfl rfl rfl (by simp only [val_set, ↓reduceIte, Nat.reduceEqDiff, v1, v3, v4, v8, v9, v12, v19, v20] <;> rfl)).trans rfl) ?_
                refine o_rd (r_loadN (cs := [.int .i64 (0), .int .i64 (0), .nils]) Ty.agg24 Ty.csz24 (by simp only [ev, envOf, val_set, ofValue, ofCell, ↓reduceIte, Nat.reduceEqDiff, v1, v3, v4, v8, v9, v12, v19, v20] <;> rfl) (read_mt A60 (Nat.le_of_ble_eq_true rfl))) rfl ((wanted_of (b := true) rfl rfl rfl (by simp only [val_set, ↓reduceIte, Nat.reduceEqDiff, v1, v3, v4, v8, v9, v12, v19, v20] <;> rfl)).trans rfl) ?_
                refine o_cl rfl rfl (by simp only [evs, ev, envOf, val_set, ofValue, ofCell, ↓reduceIte, Nat.reduceEqDiff, v1, v3, v4, v8, v9, v12, v19, v20] <;> rfl) rfl (same_selfP ho W60 (VA.mk (0) (0) [] _ .nil) (VA.mk (0) (0) [] _ .nil)) rfl ((wanted_of (b := true) rfl rfl rfl (by simp only [val_set, ↓reduceIte, Nat.reduceEqDiff, v1, v3, v4, v8, v9, v12, v19, v20] <;> rfl)).trans rfl) ?_; rintro _ H61 ⟨rfl, X61⟩
                have W61 := X61.wf; have E61 := E60.trans X61
                have A1 := X61.keep _ _ A1
                have A2 := X61.keep _ _ A2
                have A18 := X61.keep _ _ A18
                have A21 := X61.keep _ _ A21
                have A24 := X61.keep _ _ A24
                have A33 := X61.keep _ _ A33
                have A57 := X61.keep _ _ A57
                have A60 := X61.keep _ _ A60
                have n61 := X61.n
                refine o_rd (r_pick (t := true) (by simp only [ev, envOf, val_set, ofValue, ofCell, ↓reduceIte, Nat.reduceEqDiff, v1, v3, v4, v8, v9, v12, v19, v20] <;> rfl) (fun _ => (by simp only [ev, envOf, val_set, ofValue, ofCell, ↓reduceIte, Nat.reduceEqDiff, v1, v3, v4, v8, v9, v12, v19, v20] <;> rfl)) (fun h => by cases h)) rfl ((wanted_of (b := false) rfl rfl rfl (by simp only [val_set, ↓reduceIte, Nat.reduceEqDiff, v1, v3, v4, v8, v9, v12, v19, v20] <;> rfl)).trans rfl) ?_
                refine o_rd (r_pick (t := false) (by simp only [ev, envOf, val_set, ofValue, ofCell, ↓reduceIte, Nat.reduceEqDiff, v1, v3, v4, v8, v9, v12, v19, v20] <;> rfl) (fun h => by cases h) (fun _ => (by simp only [ev, envOf, val_set, ofValue, ofCell, ↓reduceIte, Nat.reduceEqDiff, v1, v3, v4, v8, v9, v12, v19, v20] <;> rfl))) rfl ((wanted_of (b := true) rfl rfl rfl (by simp only [val_set, ↓reduceIte, Nat.reduceEqDiff, v1, v3, v4, v8, v9, v12, v19, v20] <;> rfl)).trans rfl) ?_
                refine o_rd (r_pick (t := true) (by simp only [ev, envOf, val_set, ofValue, ofCell, ↓reduceIte, Nat.reduceEqDiff, v1, v3, v4, v8, v9, v12, v19, v20] <;> rfl) (fun _ => (by simp only [ev, envOf, val_set, ofValue, ofCell, ↓reduceIte, Nat.reduceEqDiff, v1, v3, v4, v8, v9, v12, v19, v20] <;> rfl)) (fun h => by cases h)) rfl rfl ?_
                refine o_rd (r_assign (by simp only [ev, envOf, val_set, ofValue, ofCell, ↓reduceIte, Nat.reduceEqDiff, v1, v3, v4, v8, v9, v12, v19, v20] <;> rfl)) rfl rfl ?_
                refine o_nil ?_
                refine w_ret ⟨.inr rfl, rfl, .bool (true), (show resultA Try.prog [.tmp 8] _ = _ by simp only [resultA, resultsA, envOf, val_set, ↓reduceIte, Nat.reduceEqDiff, Option.map_some, v1, v3, v4, v8, v9, v12, v19, v20] <;> rfl), ?_⟩
                try dsimp only
                exact ⟨by first | rfl | (exfalso; omega), E61⟩
              · obtain ⟨ky, ny, ly⟩ := y
                have how := (hp4 qs hap).trans hov
                refine o_cl rfl rfl (by simp only [evs, ev, envOf, val_set, ofValue, ofCell, ↓reduceIte, Nat.reduceEqDiff, v1, v3, v4, v8, v9, v12, v19, v20] <;> rfl) rfl (part_at ho W35 (ka := ka) (na := na) (ha.ext E35) (hQ.ext E35) (by omega) hov) rfl rfl ?_; rintro _ H62 ⟨sy, rfl, hy, X62⟩
                have W62 := X62.wf; have E62 := E35.trans X62
                have A1 := X62.keep _ _ A1
                have A2 := X62.keep _ _ A2
                have A18 := X62.keep _ _ A18
                have A21 := X62.keep _ _ A21
                have A24 := X62.keep _ _ A24
                have A33 := X62.keep _ _ A33
                have n62 := X62.n
                refine o_rd (r_move (by simp only [ev, envOf, val_set, ofValue, ofCell, ↓reduceIte, Nat.reduceEqDiff, v1, v3, v4, v8, v9, v12, v19, v20] <;> rfl)) rfl rfl ?_
                refine o_rd (r_extract (by simp only [ev, envOf, val_set, ofValue, ofCell, ↓reduceIte, Nat.reduceEqDiff, v1, v3, v4, v8, v9, v12, v19, v20] <;> rfl) rfl) rfl rfl ?_
                refine o_rd (r_extract (by simp only [ev, envOf, val_set, ofValue, ofCell, ↓reduceIte, Nat.reduceEqDiff, v1, v3, v4, v8, v9, v12, v19, v20] <;> rfl) rfl) rfl rfl ?_
                refine o_nw W62 (a_alloc Ty.zero24) rfl rfl rfl (by simp) ?_; intro H63 n63 W63 X63 A63
                have A63 : H63.at H62.n = some (.row [.int .i64 (0), .int .i64 (0), .nils] 24 false none) := A63
                have E63 := E62.trans X63
                have g63 : H0.n ≤ H62.n := E62.n
                have A1 := X63.keep _ _ A1
                have A2 := X63.keep _ _ A2
                have A18 := X63.keep _ _ A18
                have A21 := X63.keep _ _ A21
                have A24 := X63.keep _ _ A24
                have A33 := X63.keep _ _ A33
                refine o_st W63 (by simp only [ev, envOf, val_set, ofValue, ofCell, ↓reduceIte, Nat.reduceEqDiff, v1, v3, v4, v8, v9, v12, v19, v20] <;> rfl) (by simp only [ev, envOf, val_set, ofValue, ofCell, ↓reduceIte, Nat.reduceEqDiff, v1, v3, v4, v8, v9, v12, v19, v20] <;> rfl) A63 Ty.csz24 rfl (Nat.le_of_ble_eq_true rfl) (by first | rfl | exact ones3 (SA.one' hx) | exact ones3 (SA.one' hw) | exact ones3 (SA.one' hn) | exact ones3 (SA.one' hk) | exact ones3 (SA.one' hy) | exact ones3 (SA.one' hz)) rfl rfl ?_; intro H64 n64 W64 A64 K64
                have A64 : H64.at H62.n = some (.row [.int .i64 (ky), .int .i64 (ny), sy] 24 false none) := A64
                have E64 := Ext.put W0 E63 (by have := E63.n; omega) K64 n64 W64
                have A1 := K64.own A1 (by omega)
                have A2 := K64.own A2 (by omega)
                have A18 := K64.own A18 (by omega)
                have A21 := K64.own A21 (by omega)
                have A24 := K64.own A24 (by omega)
                have A33 := K64.own A33 (by omega)
                refine o_rd (r_assign (by simp only [ev, envOf, val_set, ofValue, ofCell, ↓reduceIte, Nat.reduceEqDiff, v1, v3, v4, v8, v9, v12, v19, v20] <;> rfl)) rfl rfl ?_
                refine o_nil ?_
                refine w_seq ?_
                refine w_region ?_
                refine o_rd (r_loadN (cs := [.int .i64 (kw), .int .i64 (nw), sw]) Ty.agg24 Ty.csz24 (by simp only [ev, envOf, val_set, ofValue, ofCell, ↓reduceIte, Nat.reduceEqDiff, v1, v3, v4, v8, v9, v12, v19, v20] <;> rfl) (read_mt A21 (Nat.le_of_ble_eq_true rfl))) rfl rfl ?_
                refine o_rd (r_move (by simp only [ev, envOf, val_set, ofValue, ofCell, ↓reduceIte, Nat.reduceEqDiff, v1, v3, v4, v8, v9, v12, v19, v20] <;> rfl)) rfl rfl ?_
                refine o_cl rfl rfl (by simp only [evs, ev, envOf, val_set, ofValue, ofCell, ↓reduceIte, Nat.reduceEqDiff, v1, v3, v4, v8, v9, v12, v19, v20] <;> rfl) rfl (part_at ho W64 (ka := kw) (na := nw) (hw.ext (Ext.put W19 (((((Ext.put W19 ((((((((Ext.put W19 (((Ext.put W19 ((Ext.refl W19).trans X20) (by omega) K21 n21 W21).trans X22).trans X23) (by omega) K24 n24 W24).trans X25).trans X26).trans X27).trans X28).trans X29).trans X31).trans X32) (by omega) K33 n33 W33).trans X34).trans EW).trans X62).trans X63) (by omega) K64 n64 W64)) (hQ.ext E64) (by omega) how) rfl rfl ?_; rintro _ H65 ⟨sz, rfl, hz, X65⟩
                have W65 := X65.wf; have E65 := E64.trans X65
                have A1 := X65.keep _ _ A1
                have A2 := X65.keep _ _ A2
                have A18 := X65.keep _ _ A18
                have A21 := X65.keep _ _ A21
                have A24 := X65.keep _ _ A24
                have A33 := X65.keep _ _ A33
                have A64 := X65.keep _ _ A64
                have n65 := X65.n
                refine o_rd (r_move (by simp only [ev, envOf, val_set, ofValue, ofCell, ↓reduceIte, Nat.reduceEqDiff, v1, v3, v4, v8, v9, v12, v19, v20] <;> rfl)) rfl rfl ?_
                refine o_rd (r_extract (by simp only [ev, envOf, val_set, ofValue, ofCell, ↓reduceIte, Nat.reduceEqDiff, v1, v3, v4, v8, v9, v12, v19, v20] <;> rfl) rfl) rfl rfl ?_
                refine o_rd (r_extract (by simp only [ev, envOf, val_set, ofValue, ofCell, ↓reduceIte, Nat.reduceEqDiff, v1, v3, v4, v8, v9, v12, v19, v20] <;> rfl) rfl) rfl rfl ?_
                refine o_nw W65 (a_alloc Ty.zero24) rfl rfl rfl (by simp) ?_; intro H66 n66 W66 X66 A66
                have A66 : H66.at H65.n = some (.row [.int .i64 (0), .int .i64 (0), .nils] 24 false none) := A66
                have E66 := E65.trans X66
                have g66 : H0.n ≤ H65.n := E65.n
                have A1 := X66.keep _ _ A1
                have A2 := X66.keep _ _ A2
                have A18 := X66.keep _ _ A18
                have A21 := X66.keep _ _ A21
                have A24 := X66.keep _ _ A24
                have A33 := X66.keep _ _ A33
                have A64 := X66.keep _ _ A64
                refine o_st W66 (by simp only [ev, envOf, val_set, ofValue, ofCell, ↓reduceIte, Nat.reduceEqDiff, v1, v3, v4, v8, v9, v12, v19, v20] <;> rfl) (by simp only [ev, envOf, val_set, ofValue, ofCell, ↓reduceIte, Nat.reduceEqDiff, v1, v3, v4, v8, v9, v12, v19, v20] <;> rfl) A66 Ty.csz24 rfl (Nat.le_of_ble_eq_true rfl) (by first | rfl | exact ones3 (SA.one' hx) | exact ones3 (SA.one' hw) | exact ones3 (SA.one' hn) | exact ones3 (SA.one' hk) | exact ones3 (SA.one' hy) | exact ones3 (SA.one' hz)) rfl rfl ?_; intro H67 n67 W67 A67 K67
                have A67 : H67.at H65.n = some (.row [.int .i64 (ky), .int .i64 (ny), sz] 24 false none) := A67
                have E67 := Ext.put W0 E66 (by have := E66.n; omega) K67 n67 W67
                have A1 := K67.own A1 (by omega)
                have A2 := K67.own A2 (by omega)
                have A18 := K67.own A18 (by omega)
                have A21 := K67.own A21 (by omega)
                have A24 := K67.own A24 (by omega)
                have A33 := K67.own A33 (by omega)
                have A64 := K67.own A64 (by omega)
                refine o_rd (r_assign (by simp only [ev, envOf, val_set, ofValue, ofCell, ↓reduceIte, Nat.reduceEqDiff, v1, v3, v4, v8, v9, v12, v19, v20] <;> rfl)) rfl rfl ?_
                refine o_nil ?_
                refine w_seq ?_
                refine w_region ?_
                refine o_rd (r_move (by simp only [ev, envOf, val_set, ofValue, ofCell, ↓reduceIte, Nat.reduceEqDiff, v1, v3, v4, v8, v9, v12, v19, v20] <;> rfl)) rfl rfl ?_
                refine o_rd (r_move (by simp only [ev, envOf, val_set, ofValue, ofCell, ↓reduceIte, Nat.reduceEqDiff, v1, v3, v4, v8, v9, v12, v19, v20] <;> rfl)) rfl rfl ?_
                refine o_rd (r_move (by simp only [ev, envOf, val_set, ofValue, ofCell, ↓reduceIte, Nat.reduceEqDiff, v1, v3, v4, v8, v9, v12, v19, v20] <;> rfl)) rfl ((wanted_of (b := true) rfl rfl rfl (by simp only [val_set, ↓reduceIte, Nat.reduceEqDiff, v1, v3, v4, v8, v9, v12, v19, v20] <;> rfl)).trans rfl) ?_
                refine o_rd (r_not (by simp only [ev, envOf, val_set, ofValue, ofCell, ↓reduceIte, Nat.reduceEqDiff, v1, v3, v4, v8, v9, v12, v19, v20] <;> rfl)) rfl ((wanted_of (b := true) rfl rfl rfl (by simp only [val_set, ↓reduceIte, Nat.reduceEqDiff, v1, v3, v4, v8, v9, v12, v19, v20] <;> rfl)).trans rfl) ?_
                refine o_rd (r_move (by simp only [ev, envOf, val_set, ofValue, ofCell, ↓reduceIte, Nat.reduceEqDiff, v1, v3, v4, v8, v9, v12, v19, v20] <;> rfl)) rfl ((wanted_of (b := true) rfl rfl rfl (by simp only [val_set, ↓reduceIte, Nat.reduceEqDiff, v1, v3, v4, v8, v9, v12, v19, v20] <;> rfl)).trans rfl) ?_
                refine o_rd (r_move (by simp only [ev, envOf, val_set, ofValue, ofCell, ↓reduceIte, Nat.reduceEqDiff, v1, v3, v4, v8, v9, v12, v19, v20] <;> rfl)) rfl ((wanted_of (b := false) rfl rfl rfl (by simp only [val_set, ↓reduceIte, Nat.reduceEqDiff, v1, v3, v4, v8, v9, v12, v19, v20] <;> rfl)).trans rfl) ?_
                refine o_rd (r_move (by simp only [ev, envOf, val_set, ofValue, ofCell, ↓reduceIte, Nat.reduceEqDiff, v1, v3, v4, v8, v9, v12, v19, v20] <;> rfl)) rfl ((wanted_of (b := false) rfl rfl rfl (by simp only [val_set, ↓reduceIte, Nat.reduceEqDiff, v1, v3, v4, v8, v9, v12, v19, v20] <;> rfl)).trans rfl) ?_
                refine o_rd (r_eqB Try.underlying4 (by simp only [ev, envOf, val_set, ofValue, ofCell, ↓reduceIte, Nat.reduceEqDiff, v1, v3, v4, v8, v9, v12, v19, v20] <;> rfl) (by simp only [ev, envOf, val_set, ofValue, ofCell, ↓reduceIte, Nat.reduceEqDiff, v1, v3, v4, v8, v9, v12, v19, v20] <;> rfl)) rfl ((wanted_of (b := false) rfl rfl rfl (by simp only [val_set, ↓reduceIte, Nat.reduceEqDiff, v1, v3, v4, v8, v9, v12, v19, v20] <;> rfl)).trans rfl) ?_
                refine o_rd (r_move (by simp only [ev, envOf, val_set, ofValue, ofCell, ↓reduceIte, Nat.reduceEqDiff, v1, v3, v4, v8, v9, v12, v19, v20] <;> rfl)) rfl ((wanted_of (b := false) rfl rfl rfl (by simp only [val_set, ↓reduceIte, Nat.reduceEqDiff, v1, v3, v4, v8, v9, v12, v19, v20] <;> rfl)).trans rfl) ?_
                refine o_rd (r_loadN (cs := [.int .i64 (ky), .int .i64 (ny), sy]) Ty.agg24 Ty.csz24 (by simp only [ev, envOf, val_set, ofValue, ofCell, ↓reduceIte, Nat.reduceEqDiff, v1, v3, v4, v8, v9, v12, v19, v20] <;> rfl) (read_mt A64 (Nat.le_of_ble_eq_true rfl))) rfl ((wanted_of (b := true) rfl rfl rfl (by simp only [val_set, ↓reduceIte, Nat.reduceEqDiff, v1, v3, v4, v8, v9, v12, v19, v20] <;> rfl)).trans rfl) ?_
                refine o_rd (r_loadN (cs := [.int .i64 (ky), .int .i64 (ny), sz]) Ty.agg24 Ty.csz24 (by simp only [ev, envOf, val_set, ofValue, ofCell, ↓reduceIte, Nat.reduceEqDiff, v1, v3, v4, v8, v9, v12, v19, v20] <;> rfl) (read_mt A67 (Nat.le_of_ble_eq_true rfl))) rfl ((wanted_of (b := true) rfl rfl rfl (by simp only [val_set, ↓reduceIte, Nat.reduceEqDiff, v1, v3, v4, v8, v9, v12, v19, v20] <;> rfl)).trans rfl) ?_
                refine o_cl rfl rfl (by simp only [evs, ev, envOf, val_set, ofValue, ofCell, ↓reduceIte, Nat.reduceEqDiff, v1, v3, v4, v8, v9, v12, v19, v20] <;> rfl) rfl (same_selfP ho W67 (VA.mk (ky) (ny) ly _ (hy.ext (Ext.put W62 (((Ext.put W62 ((Ext.refl W62).trans X63) (by omega) K64 n64 W64).trans X65).trans X66) (by omega) K67 n67 W67))) (VA.mk (ky) (ny) ly _ (hz.ext (Ext.put W65 ((Ext.refl W65).trans X66) (by omega) K67 n67 W67)))) rfl ((wanted_of (b := true) rfl rfl rfl (by simp only [val_set, ↓reduceIte, Nat.reduceEqDiff, v1, v3, v4, v8, v9, v12, v19, v20] <;> rfl)).trans rfl) ?_; rintro _ H68 ⟨rfl, X68⟩
                have W68 := X68.wf; have E68 := E67.trans X68
                have A1 := X68.keep _ _ A1
                have A2 := X68.keep _ _ A2
                have A18 := X68.keep _ _ A18
                have A21 := X68.keep _ _ A21
                have A24 := X68.keep _ _ A24
                have A33 := X68.keep _ _ A33
                have A64 := X68.keep _ _ A64
                have A67 := X68.keep _ _ A67
                have n68 := X68.n
                refine o_rd (r_pick (t := true) (by simp only [ev, envOf, val_set, ofValue, ofCell, ↓reduceIte, Nat.reduceEqDiff, v1, v3, v4, v8, v9, v12, v19, v20] <;> rfl) (fun _ => (by simp only [ev, envOf, val_set, ofValue, ofCell, ↓reduceIte, Nat.reduceEqDiff, v1, v3, v4, v8, v9, v12, v19, v20] <;> rfl)) (fun h => by cases h)) rfl ((wanted_of (b := false) rfl rfl rfl (by simp only [val_set, ↓reduceIte, Nat.reduceEqDiff, v1, v3, v4, v8, v9, v12, v19, v20] <;> rfl)).trans rfl) ?_
                refine o_rd (r_pick (t := false) (by simp only [ev, envOf, val_set, ofValue, ofCell, ↓reduceIte, Nat.reduceEqDiff, v1, v3, v4, v8, v9, v12, v19, v20] <;> rfl) (fun h => by cases h) (fun _ => (by simp only [ev, envOf, val_set, ofValue, ofCell, ↓reduceIte, Nat.reduceEqDiff, v1, v3, v4, v8, v9, v12, v19, v20] <;> rfl))) rfl ((wanted_of (b := true) rfl rfl rfl (by simp only [val_set, ↓reduceIte, Nat.reduceEqDiff, v1, v3, v4, v8, v9, v12, v19, v20] <;> rfl)).trans rfl) ?_
                refine o_rd (r_pick (t := true) (by simp only [ev, envOf, val_set, ofValue, ofCell, ↓reduceIte, Nat.reduceEqDiff, v1, v3, v4, v8, v9, v12, v19, v20] <;> rfl) (fun _ => (by simp only [ev, envOf, val_set, ofValue, ofCell, ↓reduceIte, Nat.reduceEqDiff, v1, v3, v4, v8, v9, v12, v19, v20] <;> rfl)) (fun h => by cases h)) rfl rfl ?_
                refine o_rd (r_assign (by simp only [ev, envOf, val_set, ofValue, ofCell, ↓reduceIte, Nat.reduceEqDiff, v1, v3, v4, v8, v9, v12, v19, v20] <;> rfl)) rfl rfl ?_
                refine o_nil ?_
                refine w_ret ⟨.inr rfl, rfl, .bool (true), (show resultA Try.prog [.tmp 8] _ = _ by simp only [resultA, resultsA, envOf, val_set, ↓reduceIte, Nat.reduceEqDiff, Option.map_some, v1, v3, v4, v8, v9, v12, v19, v20] <;> rfl), ?_⟩
                try dsimp only
                exact ⟨by first | rfl | (exfalso; omega), E68⟩
          · have hg36 := dec_t hg36
            refine o_rd (r_move (by simp only [ev, envOf, val_set, ofValue, ofCell, ↓reduceIte, Nat.reduceEqDiff, v1, v3, v4, v8, v9, v12, v19, v20] <;> rfl)) rfl ((wanted_of (b := true) rfl rfl rfl (by simp only [val_set, ↓reduceIte, Nat.reduceEqDiff, v1, v3, v4, v8, v9, v12, v19, v20] <;> rfl)).trans rfl) ?_
            refine o_rd (r_move (by simp only [ev, envOf, val_set, ofValue, ofCell, ↓reduceIte, Nat.reduceEqDiff, v1, v3, v4, v8, v9, v12, v19, v20] <;> rfl)) rfl ((wanted_of (b := true) rfl rfl rfl (by simp only [val_set, ↓reduceIte, Nat.reduceEqDiff, v1, v3, v4, v8, v9, v12, v19, v20] <;> rfl)).trans rfl) ?_
            refine o_rd (r_len (n := qs.length) Try.underlying28 (by simp only [ev, envOf, val_set, ofValue, ofCell, ↓reduceIte, Nat.reduceEqDiff, v1, v3, v4, v8, v9, v12, v19, v20] <;> rfl) hQ.lenOf) rfl ((wanted_of (b := true) rfl rfl rfl (by simp only [val_set, ↓reduceIte, Nat.reduceEqDiff, v1, v3, v4, v8, v9, v12, v19, v20] <;> rfl)).trans rfl) ?_
            refine o_rd (r_lt (a := ((i : Nat) : Int)) (b := ((qs.length : Nat) : Int)) (by simp only [ev, envOf, val_set, ofValue, ofCell, ↓reduceIte, Nat.reduceEqDiff, v1, v3, v4, v8, v9, v12, v19, v20] <;> rfl) (by simp only [ev, envOf, val_set, ofValue, ofCell, ↓reduceIte, Nat.reduceEqDiff, v1, v3, v4, v8, v9, v12, v19, v20] <;> rfl)) rfl ((wanted_of (b := true) rfl rfl rfl (by simp only [val_set, ↓reduceIte, Nat.reduceEqDiff, v1, v3, v4, v8, v9, v12, v19, v20] <;> rfl)).trans rfl) ?_
            refine o_rd (r_pick (t := true) (by simp only [ev, envOf, val_set, ofValue, ofCell, ↓reduceIte, Nat.reduceEqDiff, v1, v3, v4, v8, v9, v12, v19, v20] <;> rfl) (fun _ => (by simp only [ev, envOf, val_set, ofValue, ofCell, ↓reduceIte, Nat.reduceEqDiff, v1, v3, v4, v8, v9, v12, v19, v20] <;> rfl)) (fun h => by cases h)) rfl rfl ?_
            refine o_nil ?_
            refine w_cond (by simp only [ev, envOf, val_set, ofValue, ofCell, ↓reduceIte, Nat.reduceEqDiff, v1, v3, v4, v8, v9, v12, v19, v20] <;> rfl) (fun hc69 => ?_) (fun hc69 => ?_)
            · have hc69 := dec_t hc69
              refine w_skip ?_
              refine w_seq ?_
              refine w_block ?_
              refine w_draw (ms := [0, 1, 3, 3, 15, 31, 3, 3, 195, 451, 1023, 2047, 4095]) (ord := [0, 1, 2, 3, 4, 5, 6, 7, 8, 9, 10, 11, 12]) (by kernel_rfl) (by kernel_rfl) (by kernel_rfl) ?_
              have hi1 : i < ps.length := by omega
              have hi2 : i < qs.length := by omega
              obtain ⟨loc1, off1, cap1, rfl, hr1⟩ := hP.get hi1
              obtain ⟨loc2, off2, cap2, rfl, hr2⟩ := hQ.get hi2
              refine d_rd rfl (r_move (by simp only [ev, envOf, val_set, ofValue, ofCell, ↓reduceIte, Nat.reduceEqDiff, v1, v3, v4, v8, v9, v12, v19, v20] <;> rfl)) rfl rfl ?_
              refine d_rd rfl (r_move (by simp only [ev, envOf, val_set, ofValue, ofCell, ↓reduceIte, Nat.reduceEqDiff, v1, v3, v4, v8, v9, v12, v19, v20] <;> rfl)) rfl rfl ?_
              cases hg70 : (apart (ps.take i) (qs.take i) : Bool)
              · skip
                refine d_rd rfl (r_move (by simp only [ev, envOf, val_set, ofValue, ofCell, ↓reduceIte, Nat.reduceEqDiff, v1, v3, v4, v8, v9, v12, v19, v20] <;> rfl)) rfl ((wanted_of (b := false) rfl rfl rfl (by simp only [val_set, ↓reduceIte, Nat.reduceEqDiff, v1, v3, v4, v8, v9, v12, v19, v20] <;> rfl)).trans rfl) ?_
                refine d_rd rfl (r_move (by simp only [ev, envOf, val_set, ofValue, ofCell, ↓reduceIte, Nat.reduceEqDiff, v1, v3, v4, v8, v9, v12, v19, v20] <;> rfl)) rfl ((wanted_of (b := false) rfl rfl rfl (by simp only [val_set, ↓reduceIte, Nat.reduceEqDiff, v1, v3, v4, v8, v9, v12, v19, v20] <;> rfl)).trans rfl) ?_
                refine d_rd rfl (r_indexAddr Try.underlying28 Ty.csz3 (by simp only [ev, envOf, val_set, ofValue, ofCell, ↓reduceIte, Nat.reduceEqDiff, v1, v3, v4, v8, v9, v12, v19, v20] <;> rfl) (by simp only [ev, envOf, val_set, ofValue, ofCell, ↓reduceIte, Nat.reduceEqDiff, v1, v3, v4, v8, v9, v12, v19, v20] <;> rfl) hi1) rfl ((wanted_of (b := false) rfl rfl rfl (by simp only [val_set, ↓reduceIte, Nat.reduceEqDiff, v1, v3, v4, v8, v9, v12, v19, v20] <;> rfl)).trans rfl) ?_
                refine d_rd rfl (r_load1 Ty.agg3 (by simp only [ev, envOf, val_set, ofValue, ofCell, ↓reduceIte, Nat.reduceEqDiff, v1, v3, v4, v8, v9, v12, v19, v20] <;> rfl) (E35.read hr1)) rfl ((wanted_of (b := false) rfl rfl rfl (by simp only [val_set, ↓reduceIte, Nat.reduceEqDiff, v1, v3, v4, v8, v9, v12, v19, v20] <;> rfl)).trans rfl) ?_
                refine d_rd rfl (r_move (by simp only [ev, envOf, val_set, ofValue, ofCell, ↓reduceIte, Nat.reduceEqDiff, v1, v3, v4, v8, v9, v12, v19, v20] <;> rfl)) rfl ((wanted_of (b := false) rfl rfl rfl (by simp only [val_set, ↓reduceIte, Nat.reduceEqDiff, v1, v3, v4, v8, v9, v12, v19, v20] <;> rfl)).trans rfl) ?_
                refine d_rd rfl (r_move (by simp only [ev, envOf, val_set, ofValue, ofCell, ↓reduceIte, Nat.reduceEqDiff, v1, v3, v4, v8, v9, v12, v19, v20] <;> rfl)) rfl ((wanted_of (b := false) rfl rfl rfl (by simp only [val_set, ↓reduceIte, Nat.reduceEqDiff, v1, v3, v4, v8, v9, v12, v19, v20] <;> rfl)).trans rfl) ?_
                refine d_rd rfl (r_indexAddr Try.underlying28 Ty.csz3 (by simp only [ev, envOf, val_set, ofValue, ofCell, ↓reduceIte, Nat.reduceEqDiff, v1, v3, v4, v8, v9, v12, v19, v20] <;> rfl) (by simp only [ev, envOf, val_set, ofValue, ofCell, ↓reduceIte, Nat.reduceEqDiff, v1, v3, v4, v8, v9, v12, v19, v20] <;> rfl) hi2) rfl ((wanted_of (b := false) rfl rfl rfl (by simp only [val_set, ↓reduceIte, Nat.reduceEqDiff, v1, v3, v4, v8, v9, v12, v19, v20] <;> rfl)).trans rfl) ?_
                refine d_rd rfl (r_load1 Ty.agg3 (by simp only [ev, envOf, val_set, ofValue, ofCell, ↓reduceIte, Nat.reduceEqDiff, v1, v3, v4, v8, v9, v12, v19, v20] <;> rfl) (E35.read hr2)) rfl ((wanted_of (b := false) rfl rfl rfl (by simp only [val_set, ↓reduceIte, Nat.reduceEqDiff, v1, v3, v4, v8, v9, v12, v19, v20] <;> rfl)).trans rfl) ?_
                refine d_rd rfl (r_ne (a := ps[i]) (b := qs[i]) (by simp only [ev, envOf, val_set, ofValue, ofCell, ↓reduceIte, Nat.reduceEqDiff, v1, v3, v4, v8, v9, v12, v19, v20] <;> rfl) (by simp only [ev, envOf, val_set, ofValue, ofCell, ↓reduceIte, Nat.reduceEqDiff, v1, v3, v4, v8, v9, v12, v19, v20] <;> rfl)) rfl ((wanted_of (b := false) rfl rfl rfl (by simp only [val_set, ↓reduceIte, Nat.reduceEqDiff, v1, v3, v4, v8, v9, v12, v19, v20] <;> rfl)).trans rfl) ?_
                refine d_rd rfl (r_pick (t := false) (by simp only [ev, envOf, val_set, ofValue, ofCell, ↓reduceIte, Nat.reduceEqDiff, v1, v3, v4, v8, v9, v12, v19, v20] <;> rfl) (fun h => by cases h) (fun _ => (by simp only [ev, envOf, val_set, ofValue, ofCell, ↓reduceIte, Nat.reduceEqDiff, v1, v3, v4, v8, v9, v12, v19, v20] <;> rfl))) rfl rfl ?_
                refine d_rd rfl (r_assign (by simp only [ev, envOf, val_set, ofValue, ofCell, ↓reduceIte, Nat.reduceEqDiff, v1, v3, v4, v8, v9, v12, v19, v20] <;> rfl)) rfl rfl ?_
                refine d_nil ?_
                refine w_region ?_
                refine o_rd (r_move (by simp only [ev, envOf, val_set, ofValue, ofCell, ↓reduceIte, Nat.reduceEqDiff, v1, v3, v4, v8, v9, v12, v19, v20] <;> rfl)) rfl rfl ?_
                refine o_rd (r_addE (a := ((i : Nat) : Int)) (b := 1) (c := ((i + 1 : Nat) : Int)) (by simp only [ev, envOf, val_set, ofValue, ofCell, ↓reduceIte, Nat.reduceEqDiff, v1, v3, v4, v8, v9, v12, v19, v20] <;> rfl) (by simp only [ev, envOf, val_set, ofValue, ofCell, ↓reduceIte, Nat.reduceEqDiff, v1, v3, v4, v8, v9, v12, v19, v20] <;> rfl) (by omega) (by omega) (by omega)) rfl rfl ?_
                refine o_rd (r_assign (by simp only [ev, envOf, val_set, ofValue, ofCell, ↓reduceIte, Nat.reduceEqDiff, v1, v3, v4, v8, v9, v12, v19, v20] <;> rfl)) rfl rfl ?_
                refine o_nil ?_
                exact ⟨m - 1, by omega, _, H35, i + 1, rfl, (by simp only [val_set, ↓reduceIte, Nat.reduceEqDiff, v1, v3, v4, v8, v9, v12, v19, v20] <;> rfl), (by simp only [val_set, ↓reduceIte, Nat.reduceEqDiff, v1, v3, v4, v8, v9, v12, v19, v20] <;> rfl), (by simp only [val_set, ↓reduceIte, Nat.reduceEqDiff, v1, v3, v4, v8, v9, v12, v19, v20] <;> rfl), (by simp only [val_set, ↓reduceIte, Nat.reduceEqDiff, v1, v3, v4, v8, v9, v12, v19, v20] <;> rfl), (by simp only [val_set, ↓reduceIte, Nat.reduceEqDiff, v1, v3, v4, v8, v9, v12, v19, v20] <;> rfl), (by simp only [val_set, ↓reduceIte, Nat.reduceEqDiff, v1, v3, v4, v8, v9, v12, v19, v20] <;> rfl), (by simp only [val_set, ↓reduceIte, Nat.reduceEqDiff]; rw [apart_take hi1 hi2]; simp [hg5, hc7, hc30, hg36, hc69, hg70]), (by simp only [val_set, ↓reduceIte, Nat.reduceEqDiff, v1, v3, v4, v8, v9, v12, v19, v20] <;> rfl), W35, E35, A1, A2, A18, A21, A24, A33, EW, by omega⟩
              · skip
                refine d_sk rfl rfl ((wanted_of (b := true) rfl rfl rfl (by simp only [val_set, ↓reduceIte, Nat.reduceEqDiff, v1, v3, v4, v8, v9, v12, v19, v20] <;> rfl)).trans rfl) ?_
                refine d_sk rfl rfl ((wanted_of (b := true) rfl rfl rfl (by simp only [val_set, ↓reduceIte, Nat.reduceEqDiff, v1, v3, v4, v8, v9, v12, v19, v20] <;> rfl)).trans rfl) ?_
                refine d_sk rfl rfl ((wanted_of (b := true) rfl rfl rfl (by simp only [val_set, ↓reduceIte, Nat.reduceEqDiff, v1, v3, v4, v8, v9, v12, v19, v20] <;> rfl)).trans rfl) ?_
                refine d_sk rfl rfl ((wanted_of (b := true) rfl rfl rfl (by simp only [val_set, ↓reduceIte, Nat.reduceEqDiff, v1, v3, v4, v8, v9, v12, v19, v20] <;> rfl)).trans rfl) ?_
                refine d_sk rfl rfl ((wanted_of (b := true) rfl rfl rfl (by simp only [val_set, ↓reduceIte, Nat.reduceEqDiff, v1, v3, v4, v8, v9, v12, v19, v20] <;> rfl)).trans rfl) ?_
                refine d_sk rfl rfl ((wanted_of (b := true) rfl rfl rfl (by simp only [val_set, ↓reduceIte, Nat.reduceEqDiff, v1, v3, v4, v8, v9, v12, v19, v20] <;> rfl)).trans rfl) ?_
                refine d_sk rfl rfl ((wanted_of (b := true) rfl rfl rfl (by simp only [val_set, ↓reduceIte, Nat.reduceEqDiff, v1, v3, v4, v8, v9, v12, v19, v20] <;> rfl)).trans rfl) ?_
                refine d_sk rfl rfl ((wanted_of (b := true) rfl rfl rfl (by simp only [val_set, ↓reduceIte, Nat.reduceEqDiff, v1, v3, v4, v8, v9, v12, v19, v20] <;> rfl)).trans rfl) ?_
                refine d_sk rfl rfl ((wanted_of (b := true) rfl rfl rfl (by simp only [val_set, ↓reduceIte, Nat.reduceEqDiff, v1, v3, v4, v8, v9, v12, v19, v20] <;> rfl)).trans rfl) ?_
                refine d_rd rfl (r_pick (t := true) (by simp only [ev, envOf, val_set, ofValue, ofCell, ↓reduceIte, Nat.reduceEqDiff, v1, v3, v4, v8, v9, v12, v19, v20] <;> rfl) (fun _ => (by simp only [ev, envOf, val_set, ofValue, ofCell, ↓reduceIte, Nat.reduceEqDiff, v1, v3, v4, v8, v9, v12, v19, v20] <;> rfl)) (fun h => by cases h)) rfl rfl ?_
                refine d_rd rfl (r_assign (by simp only [ev, envOf, val_set, ofValue, ofCell, ↓reduceIte, Nat.reduceEqDiff, v1, v3, v4, v8, v9, v12, v19, v20] <;> rfl)) rfl rfl ?_
                refine d_nil ?_
                refine w_region ?_
                refine o_rd (r_move (by simp only [ev, envOf, val_set, ofValue, ofCell, ↓reduceIte, Nat.reduceEqDiff, v1, v3, v4, v8, v9, v12, v19, v20] <;> rfl)) rfl rfl ?_
                refine o_rd (r_addE (a := ((i : Nat) : Int)) (b := 1) (c := ((i + 1 : Nat) : Int)) (by simp only [ev, envOf, val_set, ofValue, ofCell, ↓reduceIte, Nat.reduceEqDiff, v1, v3, v4, v8, v9, v12, v19, v20] <;> rfl) (by simp only [ev, envOf, val_set, ofValue, ofCell, ↓reduceIte, Nat.reduceEqDiff, v1, v3, v4, v8, v9, v12, v19, v20] <;> rfl) (by omega) (by omega) (by omega)) rfl rfl ?_
                refine o_rd (r_assign (by simp only [ev, envOf, val_set, ofValue, ofCell, ↓reduceIte, Nat.reduceEqDiff, v1, v3, v4, v8, v9, v12, v19, v20] <;> rfl)) rfl rfl ?_
                refine o_nil ?_
                exact ⟨m - 1, by omega, _, H35, i + 1, rfl, (by simp only [val_set, ↓reduceIte, Nat.reduceEqDiff, v1, v3, v4, v8, v9, v12, v19, v20] <;> rfl), (by simp only [val_set, ↓reduceIte, Nat.reduceEqDiff, v1, v3, v4, v8, v9, v12, v19, v20] <;> rfl), (by simp only [val_set, ↓reduceIte, Nat.reduceEqDiff, v1, v3, v4, v8, v9, v12, v19, v20] <;> rfl), (by simp only [val_set, ↓reduceIte, Nat.reduceEqDiff, v1, v3, v4, v8, v9, v12, v19, v20] <;> rfl), (by simp only [val_set, ↓reduceIte, Nat.reduceEqDiff, v1, v3, v4, v8, v9, v12, v19, v20] <;> rfl), (by simp only [val_set, ↓reduceIte, Nat.reduceEqDiff, v1, v3, v4, v8, v9, v12, v19, v20] <;> rfl), (by simp only [val_set, ↓reduceIte, Nat.reduceEqDiff]; rw [apart_take hi1 hi2]; simp [hg5, hc7, hc30, hg36, hc69, hg70]), (by simp only [val_set, ↓reduceIte, Nat.reduceEqDiff, v1, v3, v4, v8, v9, v12, v19, v20] <;> rfl), W35, E35, A1, A2, A18, A21, A24, A33, EW, by omega⟩
            · have hc69 := dec_f hc69
              refine w_exit (blk_exit ?_)
              refine w_seq ?_
              refine w_region ?_
              rw [apart_all (by omega)] at v19
              refine o_rd (r_loadN (cs := [.int .i64 (ka), .int .i64 (na), sa]) Ty.agg24 Ty.csz24 (by simp only [ev, envOf, val_set, ofValue, ofCell, ↓reduceIte, Nat.reduceEqDiff, v1, v3, v4, v8, v9, v12, v19, v20] <;> rfl) (read_mt A1 (Nat.le_of_ble_eq_true rfl))) rfl rfl ?_
              refine o_rd (r_move (by simp only [ev, envOf, val_set, ofValue, ofCell, ↓reduceIte, Nat.reduceEqDiff, v1, v3, v4, v8, v9, v12, v19, v20] <;> rfl)) rfl rfl ?_
              cases hap : apart ps qs
              · rw [hap] at v19
                rcases hov : partV (V.mk ka na la) qs with _ | y
                · skip
                  refine o_cl rfl rfl (by simp only [evs, ev, envOf, val_set, ofValue, ofCell, ↓reduceIte, Nat.reduceEqDiff, v1, v3, v4, v8, v9, v12, v19, v20] <;> rfl) rfl (part_not ho W35 (ka := ka) (na := na) (ha.ext E35) (hQ.ext E35) (by omega) hov) rfl rfl ?_; rintro _ H71 ⟨rfl, X71⟩
                  have W71 := X71.wf; have E71 := E35.trans X71
                  have A1 := X71.keep _ _ A1
                  have A2 := X71.keep _ _ A2
                  have A18 := X71.keep _ _ A18
                  have A21 := X71.keep _ _ A21
                  have A24 := X71.keep _ _ A24
                  have A33 := X71.keep _ _ A33
                  have n71 := X71.n
                  refine o_rd (r_move (by simp only [ev, envOf, val_set, ofValue, ofCell, ↓reduceIte, Nat.reduceEqDiff, v1, v3, v4, v8, v9, v12, v19, v20] <;> rfl)) rfl rfl ?_
                  refine o_rd (r_extract (by simp only [ev, envOf, val_set, ofValue, ofCell, ↓reduceIte, Nat.reduceEqDiff, v1, v3, v4, v8, v9, v12, v19, v20] <;> rfl) rfl) rfl rfl ?_
                  refine o_rd (r_extract (by simp only [ev, envOf, val_set, ofValue, ofCell, ↓reduceIte, Nat.reduceEqDiff, v1, v3, v4, v8, v9, v12, v19, v20] <;> rfl) rfl) rfl rfl ?_
                  refine o_nw W71 (a_alloc Ty.zero24) rfl rfl rfl (by simp) ?_; intro H72 n72 W72 X72 A72
                  have A72 : H72.at H71.n = some (.row [.int .i64 (0), .int .i64 (0), .nils] 24 false none) := A72
                  have E72 := E71.trans X72
                  have g72 : H0.n ≤ H71.n := E71.n
                  have A1 := X72.keep _ _ A1
                  have A2 := X72.keep _ _ A2
                  have A18 := X72.keep _ _ A18
                  have A21 := X72.keep _ _ A21
                  have A24 := X72.keep _ _ A24
                  have A33 := X72.keep _ _ A33
                  refine o_st W72 (by simp only [ev, envOf, val_set, ofValue, ofCell, ↓reduceIte, Nat.reduceEqDiff, v1, v3, v4, v8, v9, v12, v19, v20] <;> rfl) (by simp only [ev, envOf, val_set, ofValue, ofCell, ↓reduceIte, Nat.reduceEqDiff, v1, v3, v4, v8, v9, v12, v19, v20] <;> rfl) A72 Ty.csz24 rfl (Nat.le_of_ble_eq_true rfl) (by first | rfl | exact ones3 (SA.one' hx) | exact ones3 (SA.one' hw) | exact ones3 (SA.one' hn) | exact ones3 (SA.one' hk) | exact ones3 (SA.one' hy) | exact ones3 (SA.one' hz)) rfl rfl ?_; intro H73 n73 W73 A73 K73
                  have A73 : H73.at H71.n = some (.row [.int .i64 (0), .int .i64 (0), .nils] 24 false none) := A73
                  have E73 := Ext.put W0 E72 (by have := E72.n; omega) K73 n73 W73
                  have A1 := K73.own A1 (by omega)
                  have A2 := K73.own A2 (by omega)
                  have A18 := K73.own A18 (by omega)
                  have A21 := K73.own A21 (by omega)
                  have A24 := K73.own A24 (by omega)
                  have A33 := K73.own A33 (by omega)
                  refine o_rd (r_assign (by simp only [ev, envOf, val_set, ofValue, ofCell, ↓reduceIte, Nat.reduceEqDiff, v1, v3, v4, v8, v9, v12, v19, v20] <;> rfl)) rfl rfl ?_
                  refine o_nil ?_
                  refine w_seq ?_
                  refine w_region ?_
                  refine o_rd (r_loadN (cs := [.int .i64 (kw), .int .i64 (nw), sw]) Ty.agg24 Ty.csz24 (by simp only [ev, envOf, val_set, ofValue, ofCell, ↓reduceIte, Nat.reduceEqDiff, v1, v3, v4, v8, v9, v12, v19, v20] <;> rfl) (read_mt A21 (Nat.le_of_ble_eq_true rfl))) rfl rfl ?_
                  refine o_rd (r_move (by simp only [ev, envOf, val_set, ofValue, ofCell, ↓reduceIte, Nat.reduceEqDiff, v1, v3, v4, v8, v9, v12, v19, v20] <;> rfl)) rfl rfl ?_
                  rcases how : partV (V.mk kw nw lw) qs with _ | z
                  · skip
                    refine o_cl rfl rfl (by simp only [evs, ev, envOf, val_set, ofValue, ofCell, ↓reduceIte, Nat.reduceEqDiff, v1, v3, v4, v8, v9, v12, v19, v20] <;> rfl) rfl (part_not ho W73 (ka := kw) (na := nw) (hw.ext (Ext.put W19 (((((Ext.put W19 ((((((((Ext.put W19 (((Ext.put W19 ((Ext.refl W19).trans X20) (by omega) K21 n21 W21).trans X22).trans X23) (by omega) K24 n24 W24).trans X25).trans X26).trans X27).trans X28).trans X29).trans X31).trans X32) (by omega) K33 n33 W33).trans X34).trans EW).trans X71).trans X72) (by omega) K73 n73 W73)) (hQ.ext E73) (by omega) how) rfl rfl ?_; rintro _ H74 ⟨rfl, X74⟩
                    have W74 := X74.wf; have E74 := E73.trans X74
                    have A1 := X74.keep _ _ A1
                    have A2 := X74.keep _ _ A2
                    have A18 := X74.keep _ _ A18
                    have A21 := X74.keep _ _ A21
                    have A24 := X74.keep _ _ A24
                    have A33 := X74.keep _ _ A33
                    have A73 := X74.keep _ _ A73
                    have n74 := X74.n
                    refine o_rd (r_move (by simp only [ev, envOf, val_set, ofValue, ofCell, ↓reduceIte, Nat.reduceEqDiff, v1, v3, v4, v8, v9, v12, v19, v20] <;> rfl)) rfl rfl ?_
                    refine o_rd (r_extract (by simp only [ev, envOf, val_set, ofValue, ofCell, ↓reduceIte, Nat.reduceEqDiff, v1, v3, v4, v8, v9, v12, v19, v20] <;> rfl) rfl) rfl rfl ?_
                    refine o_rd (r_extract (by simp only [ev, envOf, val_set, ofValue, ofCell, ↓reduceIte, Nat.reduceEqDiff, v1, v3, v4, v8, v9, v12, v19, v20] <;> rfl) rfl) rfl rfl ?_
                    refine o_nw W74 (a_alloc Ty.zero24) rfl rfl rfl (by simp) ?_; intro H75 n75 W75 X75 A75
                    have A75 : H75.at H74.n = some (.row [.int .i64 (0), .int .i64 (0), .nils] 24 false none) := A75
                    have E75 := E74.trans X75
                    have g75 : H0.n ≤ H74.n := E74.n
                    have A1 := X75.keep _ _ A1
                    have A2 := X75.keep _ _ A2
                    have A18 := X75.keep _ _ A18
                    have A21 := X75.keep _ _ A21
                    have A24 := X75.keep _ _ A24
                    have A33 := X75.keep _ _ A33
                    have A73 := X75.keep _ _ A73
                    refine o_st W75 (by simp only [ev, envOf, val_set, ofValue, ofCell, ↓reduceIte, Nat.reduceEqDiff, v1, v3, v4, v8, v9, v12, v19, v20] <;> rfl) (by simp only [ev, envOf, val_set, ofValue, ofCell, ↓reduceIte, Nat.reduceEqDiff, v1, v3, v4, v8, v9, v12, v19, v20] <;> rfl) A75 Ty.csz24 rfl (Nat.le_of_ble_eq_true rfl) (by first | rfl | exact ones3 (SA.one' hx) | exact ones3 (SA.one' hw) | exact ones3 (SA.one' hn) | exact ones3 (SA.one' hk) | exact ones3 (SA.one' hy) | exact ones3 (SA.one' hz)) rfl rfl ?_; intro H76 n76 W76 A76 K76
                    have A76 : H76.at H74.n = some (.row [.int .i64 (0), .int .i64 (0), .nils] 24 false none) := A76
                    have E76 := Ext.put W0 E75 (by have := E75.n; omega) K76 n76 W76
                    have A1 := K76.own A1 (by omega)
                    have A2 := K76.own A2 (by omega)
                    have A18 := K76.own A18 (by omega)
                    have A21 := K76.own A21 (by omega)
                    have A24 := K76.own A24 (by omega)
                    have A33 := K76.own A33 (by omega)
                    have A73 := K76.own A73 (by omega)
                    refine o_rd (r_assign (by simp only [ev, envOf, val_set, ofValue, ofCell, ↓reduceIte, Nat.reduceEqDiff, v1, v3, v4, v8, v9, v12, v19, v20] <;> rfl)) rfl rfl ?_
                    refine o_nil ?_
                    refine w_seq ?_
                    refine w_region ?_
                    refine o_rd (r_move (by simp only [ev, envOf, val_set, ofValue, ofCell, ↓reduceIte, Nat.reduceEqDiff, v1, v3, v4, v8, v9, v12, v19, v20] <;> rfl)) rfl rfl ?_
                    refine o_rd (r_move (by simp only [ev, envOf, val_set, ofValue, ofCell, ↓reduceIte, Nat.reduceEqDiff, v1, v3, v4, v8, v9, v12, v19, v20] <;> rfl)) rfl rfl ?_
                    refine o_rd (r_move (by simp only [ev, envOf, val_set, ofValue, ofCell, ↓reduceIte, Nat.reduceEqDiff, v1, v3, v4, v8, v9, v12, v19, v20] <;> rfl)) rfl ((wanted_of (b := true) rfl rfl rfl (by simp only [val_set, ↓reduceIte, Nat.reduceEqDiff, v1, v3, v4, v8, v9, v12, v19, v20] <;> rfl)).trans rfl) ?_
                    refine o_rd (r_not (by simp only [ev, envOf, val_set, ofValue, ofCell, ↓reduceIte, Nat.reduceEqDiff, v1, v3, v4, v8, v9, v12, v19, v20] <;> rfl)) rfl ((wanted_of (b := true) rfl rfl rfl (by simp only [val_set, ↓reduceIte, Nat.reduceEqDiff, v1, v3, v4, v8, v9, v12, v19, v20] <;> rfl)).trans rfl) ?_
                    refine o_rd (r_move (by simp only [ev, envOf, val_set, ofValue, ofCell, ↓reduceIte, Nat.reduceEqDiff, v1, v3, v4, v8, v9, v12, v19, v20] <;> rfl)) rfl ((wanted_of (b := true) rfl rfl rfl (by simp only [val_set, ↓reduceIte, Nat.reduceEqDiff, v1, v3, v4, v8, v9, v12, v19, v20] <;> rfl)).trans rfl) ?_
                    refine o_sk rfl ((wanted_of (b := true) rfl rfl rfl (by simp only [val_set, ↓reduceIte, Nat.reduceEqDiff, v1, v3, v4, v8, v9, v12, v19, v20] <;> rfl)).trans rfl) ?_
                    refine o_sk rfl ((wanted_of (b := true) rfl rfl rfl (by simp only [val_set, ↓reduceIte, Nat.reduceEqDiff, v1, v3, v4, v8, v9, v12, v19, v20] <;> rfl)).trans rfl) ?_
                    refine o_sk rfl ((wanted_of (b := true) rfl rfl rfl (by simp only [val_set, ↓reduceIte, Nat.reduceEqDiff, v1, v3, v4, v8, v9, v12, v19, v20] <;> rfl)).trans rfl) ?_
                    refine o_sk rfl ((wanted_of (b := true) rfl rfl rfl (by simp only [val_set, ↓reduceIte, Nat.reduceEqDiff, v1, v3, v4, v8, v9, v12, v19, v20] <;> rfl)).trans rfl) ?_
                    refine o_sk rfl (wanted_no rfl rfl rfl (by simp only [val_set, ↓reduceIte, Nat.reduceEqDiff, v1, v3, v4, v8, v9, v12, v19, v20] <;> rfl)) ?_
                    refine o_sk rfl (wanted_no rfl rfl rfl (by simp only [val_set, ↓reduceIte, Nat.reduceEqDiff, v1, v3, v4, v8, v9, v12, v19, v20] <;> rfl)) ?_
                    refine o_sk rfl (wanted_no rfl rfl rfl (by simp only [val_set, ↓reduceIte, Nat.reduceEqDiff, v1, v3, v4, v8, v9, v12, v19, v20] <;> rfl)) ?_
                    refine o_sk rfl ((wanted_of (b := true) rfl rfl rfl (by simp only [val_set, ↓reduceIte, Nat.reduceEqDiff, v1, v3, v4, v8, v9, v12, v19, v20] <;> rfl)).trans rfl) ?_
                    refine o_rd (r_pick (t := true) (by simp only [ev, envOf, val_set, ofValue, ofCell, ↓reduceIte, Nat.reduceEqDiff, v1, v3, v4, v8, v9, v12, v19, v20] <;> rfl) (fun _ => (by simp only [ev, envOf, val_set, ofValue, ofCell, ↓reduceIte, Nat.reduceEqDiff, v1, v3, v4, v8, v9, v12, v19, v20] <;> rfl)) (fun h => by cases h)) rfl ((wanted_of (b := true) rfl rfl rfl (by simp only [val_set, ↓reduceIte, Nat.reduceEqDiff, v1, v3, v4, v8, v9, v12, v19, v20] <;> rfl)).trans rfl) ?_
                    refine o_rd (r_pick (t := true) (by simp only [ev, envOf, val_set, ofValue, ofCell, ↓reduceIte, Nat.reduceEqDiff, v1, v3, v4, v8, v9, v12, v19, v20] <;> rfl) (fun _ => (by simp only [ev, envOf, val_set, ofValue, ofCell, ↓reduceIte, Nat.reduceEqDiff, v1, v3, v4, v8, v9, v12, v19, v20] <;> rfl)) (fun h => by cases h)) rfl rfl ?_
                    refine o_rd (r_assign (by simp only [ev, envOf, val_set, ofValue, ofCell, ↓reduceIte, Nat.reduceEqDiff, v1, v3, v4, v8, v9, v12, v19, v20] <;> rfl)) rfl rfl ?_
                    refine o_nil ?_
                    refine w_ret ⟨.inr rfl, rfl, .bool (true), (show resultA Try.prog [.tmp 8] _ = _ by simp only [resultA, resultsA, envOf, val_set, ↓reduceIte, Nat.reduceEqDiff, Option.map_some, v1, v3, v4, v8, v9, v12, v19, v20] <;> rfl), ?_⟩
                    try dsimp only
                    exact ⟨by first | rfl | (exfalso; omega), E76⟩
                  · obtain ⟨kz, nz, lz⟩ := z
                    refine o_cl rfl rfl (by simp only [evs, ev, envOf, val_set, ofValue, ofCell, ↓reduceIte, Nat.reduceEqDiff, v1, v3, v4, v8, v9, v12, v19, v20] <;> rfl) rfl (part_at ho W73 (ka := kw) (na := nw) (hw.ext (Ext.put W19 (((((Ext.put W19 ((((((((Ext.put W19 (((Ext.put W19 ((Ext.refl W19).trans X20) (by omega) K21 n21 W21).trans X22).trans X23) (by omega) K24 n24 W24).trans X25).trans X26).trans X27).trans X28).trans X29).trans X31).trans X32) (by omega) K33 n33 W33).trans X34).trans EW).trans X71).trans X72) (by omega) K73 n73 W73)) (hQ.ext E73) (by omega) how) rfl rfl ?_; rintro _ H77 ⟨sz, rfl, hz, X77⟩
                    have W77 := X77.wf; have E77 := E73.trans X77
                    have A1 := X77.keep _ _ A1
                    have A2 := X77.keep _ _ A2
                    have A18 := X77.keep _ _ A18
                    have A21 := X77.keep _ _ A21
                    have A24 := X77.keep _ _ A24
                    have A33 := X77.keep _ _ A33
                    have A73 := X77.keep _ _ A73
                    have n77 := X77.n
                    refine o_rd (r_move (by simp only [ev, envOf, val_set, ofValue, ofCell, ↓reduceIte, Nat.reduceEqDiff, v1, v3, v4, v8, v9, v12, v19, v20] <;> rfl)) rfl rfl ?_
                    refine o_rd (r_extract (by simp only [ev, envOf, val_set, ofValue, ofCell, ↓reduceIte, Nat.reduceEqDiff, v1, v3, v4, v8, v9, v12, v19, v20] <;> rfl) rfl) rfl rfl ?_
                    refine o_rd (r_extract (by simp only [ev, envOf, val_set, ofValue, ofCell, ↓reduceIte, Nat.reduceEqDiff, v1, v3, v4, v8, v9, v12, v19, v20] <;> rfl) rfl) rfl rfl ?_
                    refine o_nw W77 (a_alloc Ty.zero24) rfl rfl rfl (by simp) ?_; intro H78 n78 W78 X78 A78
                    have A78 : H78.at H77.n = some (.row [.int .i64 (0), .int .i64 (0), .nils] 24 false none) := A78
                    have E78 := E77.trans X78
                    have g78 : H0.n ≤ H77.n := E77.n
                    have A1 := X78.keep _ _ A1
                    have A2 := X78.keep _ _ A2
                    have A18 := X78.keep _ _ A18
                    have A21 := X78.keep _ _ A21
                    have A24 := X78.keep _ _ A24
                    have A33 := X78.keep _ _ A33
                    have A73 := X78.keep _ _ A73
                    refine o_st W78 (by simp only [ev, envOf, val_set, ofValue, ofCell, ↓reduceIte, Nat.reduceEqDiff, v1, v3, v4, v8, v9, v12, v19, v20] <;> rfl) (by simp only [ev, envOf, val_set, ofValue, ofCell, ↓reduceIte, Nat.reduceEqDiff, v1, v3, v4, v8, v9, v12, v19, v20] <;> rfl) A78 Ty.csz24 rfl (Nat.le_of_ble_eq_true rfl) (by first | rfl | exact ones3 (SA.one' hx) | exact ones3 (SA.one' hw) | exact ones3 (SA.one' hn) | exact ones3 (SA.one' hk) | exact ones3 (SA.one' hy) | exact ones3 (SA.one' hz)) rfl rfl ?_; intro H79 n79 W79 A79 K79
                    have A79 : H79.at H77.n = some (.row [.int .i64 (kz), .int .i64 (nz), sz] 24 false none) := A79
                    have E79 := Ext.put W0 E78 (by have := E78.n; omega) K79 n79 W79
                    have A1 := K79.own A1 (by omega)
                    have A2 := K79.own A2 (by omega)
                    have A18 := K79.own A18 (by omega)
                    have A21 := K79.own A21 (by omega)
                    have A24 := K79.own A24 (by omega)
                    have A33 := K79.own A33 (by omega)
                    have A73 := K79.own A73 (by omega)
                    refine o_rd (r_assign (by simp only [ev, envOf, val_set, ofValue, ofCell, ↓reduceIte, Nat.reduceEqDiff, v1, v3, v4, v8, v9, v12, v19, v20] <;> rfl)) rfl rfl ?_
                    refine o_nil ?_
                    refine w_seq ?_
                    refine w_region ?_
                    refine o_rd (r_move (by simp only [ev, envOf, val_set, ofValue, ofCell, ↓reduceIte, Nat.reduceEqDiff, v1, v3, v4, v8, v9, v12, v19, v20] <;> rfl)) rfl rfl ?_
                    refine o_rd (r_move (by simp only [ev, envOf, val_set, ofValue, ofCell, ↓reduceIte, Nat.reduceEqDiff, v1, v3, v4, v8, v9, v12, v19, v20] <;> rfl)) rfl rfl ?_
                    refine o_rd (r_move (by simp only [ev, envOf, val_set, ofValue, ofCell, ↓reduceIte, Nat.reduceEqDiff, v1, v3, v4, v8, v9, v12, v19, v20] <;> rfl)) rfl ((wanted_of (b := true) rfl rfl rfl (by simp only [val_set, ↓reduceIte, Nat.reduceEqDiff, v1, v3, v4, v8, v9, v12, v19, v20] <;> rfl)).trans rfl) ?_
                    refine o_rd (r_not (by simp only [ev, envOf, val_set, ofValue, ofCell, ↓reduceIte, Nat.reduceEqDiff, v1, v3, v4, v8, v9, v12, v19, v20] <;> rfl)) rfl ((wanted_of (b := true) rfl rfl rfl (by simp only [val_set, ↓reduceIte, Nat.reduceEqDiff, v1, v3, v4, v8, v9, v12, v19, v20] <;> rfl)).trans rfl) ?_
                    refine o_rd (r_move (by simp only [ev, envOf, val_set, ofValue, ofCell, ↓reduceIte, Nat.reduceEqDiff, v1, v3, v4, v8, v9, v12, v19, v20] <;> rfl)) rfl ((wanted_of (b := true) rfl rfl rfl (by simp only [val_set, ↓reduceIte, Nat.reduceEqDiff, v1, v3, v4, v8, v9, v12, v19, v20] <;> rfl)).trans rfl) ?_
                    refine o_sk rfl ((wanted_of (b := true) rfl rfl rfl (by simp only [val_set, ↓reduceIte, Nat.reduceEqDiff, v1, v3, v4, v8, v9, v12, v19, v20] <;> rfl)).trans rfl) ?_
                    refine o_sk rfl ((wanted_of (b := true) rfl rfl rfl (by simp only [val_set, ↓reduceIte, Nat.reduceEqDiff, v1, v3, v4, v8, v9, v12, v19, v20] <;> rfl)).trans rfl) ?_
                    refine o_sk rfl ((wanted_of (b := true) rfl rfl rfl (by simp only [val_set, ↓reduceIte, Nat.reduceEqDiff, v1, v3, v4, v8, v9, v12, v19, v20] <;> rfl)).trans rfl) ?_
                    refine o_sk rfl ((wanted_of (b := true) rfl rfl rfl (by simp only [val_set, ↓reduceIte, Nat.reduceEqDiff, v1, v3, v4, v8, v9, v12, v19, v20] <;> rfl)).trans rfl) ?_
                    refine o_sk rfl (wanted_no rfl rfl rfl (by simp only [val_set, ↓reduceIte, Nat.reduceEqDiff, v1, v3, v4, v8, v9, v12, v19, v20] <;> rfl)) ?_
                    refine o_sk rfl (wanted_no rfl rfl rfl (by simp only [val_set, ↓reduceIte, Nat.reduceEqDiff, v1, v3, v4, v8, v9, v12, v19, v20] <;> rfl)) ?_
                    refine o_sk rfl (wanted_no rfl rfl rfl (by simp only [val_set, ↓reduceIte, Nat.reduceEqDiff, v1, v3, v4, v8, v9, v12, v19, v20] <;> rfl)) ?_
                    refine o_sk rfl ((wanted_of (b := true) rfl rfl rfl (by simp only [val_set, ↓reduceIte, Nat.reduceEqDiff, v1, v3, v4, v8, v9, v12, v19, v20] <;> rfl)).trans rfl) ?_
                    refine o_rd (r_pick (t := true) (by simp only [ev, envOf, val_set, ofValue, ofCell, ↓reduceIte, Nat.reduceEqDiff, v1, v3, v4, v8, v9, v12, v19, v20] <;> rfl) (fun _ => (by simp only [ev, envOf, val_set, ofValue, ofCell, ↓reduceIte, Nat.reduceEqDiff, v1, v3, v4, v8, v9, v12, v19, v20] <;> rfl)) (fun h => by cases h)) rfl ((wanted_of (b := true) rfl rfl rfl (by simp only [val_set, ↓reduceIte, Nat.reduceEqDiff, v1, v3, v4, v8, v9, v12, v19, v20] <;> rfl)).trans rfl) ?_
                    refine o_rd (r_pick (t := true) (by simp only [ev, envOf, val_set, ofValue, ofCell, ↓reduceIte, Nat.reduceEqDiff, v1, v3, v4, v8, v9, v12, v19, v20] <;> rfl) (fun _ => (by simp only [ev, envOf, val_set, ofValue, ofCell, ↓reduceIte, Nat.reduceEqDiff, v1, v3, v4, v8, v9, v12, v19, v20] <;> rfl)) (fun h => by cases h)) rfl rfl ?_
                    refine o_rd (r_assign (by simp only [ev, envOf, val_set, ofValue, ofCell, ↓reduceIte, Nat.reduceEqDiff, v1, v3, v4, v8, v9, v12, v19, v20] <;> rfl)) rfl rfl ?_
                    refine o_nil ?_
                    refine w_ret ⟨.inr rfl, rfl, .bool (true), (show resultA Try.prog [.tmp 8] _ = _ by simp only [resultA, resultsA, envOf, val_set, ↓reduceIte, Nat.reduceEqDiff, Option.map_some, v1, v3, v4, v8, v9, v12, v19, v20] <;> rfl), ?_⟩
                    try dsimp only
                    exact ⟨by first | rfl | (exfalso; omega), E79⟩
                · obtain ⟨ky, ny, ly⟩ := y
                  refine o_cl rfl rfl (by simp only [evs, ev, envOf, val_set, ofValue, ofCell, ↓reduceIte, Nat.reduceEqDiff, v1, v3, v4, v8, v9, v12, v19, v20] <;> rfl) rfl (part_at ho W35 (ka := ka) (na := na) (ha.ext E35) (hQ.ext E35) (by omega) hov) rfl rfl ?_; rintro _ H80 ⟨sy, rfl, hy, X80⟩
                  have W80 := X80.wf; have E80 := E35.trans X80
                  have A1 := X80.keep _ _ A1
                  have A2 := X80.keep _ _ A2
                  have A18 := X80.keep _ _ A18
                  have A21 := X80.keep _ _ A21
                  have A24 := X80.keep _ _ A24
                  have A33 := X80.keep _ _ A33
                  have n80 := X80.n
                  refine o_rd (r_move (by simp only [ev, envOf, val_set, ofValue, ofCell, ↓reduceIte, Nat.reduceEqDiff, v1, v3, v4, v8, v9, v12, v19, v20] <;> rfl)) rfl rfl ?_
                  refine o_rd (r_extract (by simp only [ev, envOf, val_set, ofValue, ofCell, ↓reduceIte, Nat.reduceEqDiff, v1, v3, v4, v8, v9, v12, v19, v20] <;> rfl) rfl) rfl rfl ?_
                  refine o_rd (r_extract (by simp only [ev, envOf, val_set, ofValue, ofCell, ↓reduceIte, Nat.reduceEqDiff, v1, v3, v4, v8, v9, v12, v19, v20] <;> rfl) rfl) rfl rfl ?_
                  refine o_nw W80 (a_alloc Ty.zero24) rfl rfl rfl (by simp) ?_; intro H81 n81 W81 X81 A81
                  have A81 : H81.at H80.n = some (.row [.int .i64 (0), .int .i64 (0), .nils] 24 false none) := A81
                  have E81 := E80.trans X81
                  have g81 : H0.n ≤ H80.n := E80.n
                  have A1 := X81.keep _ _ A1
                  have A2 := X81.keep _ _ A2
                  have A18 := X81.keep _ _ A18
                  have A21 := X81.keep _ _ A21
                  have A24 := X81.keep _ _ A24
                  have A33 := X81.keep _ _ A33
                  refine o_st W81 (by simp only [ev, envOf, val_set, ofValue, ofCell, ↓reduceIte, Nat.reduceEqDiff, v1, v3, v4, v8, v9, v12, v19, v20] <;> rfl) (by simp only [ev, envOf, val_set, ofValue, ofCell, ↓reduceIte, Nat.reduceEqDiff, v1, v3, v4, v8, v9, v12, v19, v20] <;> rfl) A81 Ty.csz24 rfl (Nat.le_of_ble_eq_true rfl) (by first | rfl | exact ones3 (SA.one' hx) | exact ones3 (SA.one' hw) | exact ones3 (SA.one' hn) | exact ones3 (SA.one' hk) | exact ones3 (SA.one' hy) | exact ones3 (SA.one' hz)) rfl rfl ?_; intro H82 n82 W82 A82 K82
                  have A82 : H82.at H80.n = some (.row [.int .i64 (ky), .int .i64 (ny), sy] 24 false none) := A82
                  have E82 := Ext.put W0 E81 (by have := E81.n; omega) K82 n82 W82
                  have A1 := K82.own A1 (by omega)
                  have A2 := K82.own A2 (by omega)
                  have A18 := K82.own A18 (by omega)
                  have A21 := K82.own A21 (by omega)
                  have A24 := K82.own A24 (by omega)
                  have A33 := K82.own A33 (by omega)
                  refine o_rd (r_assign (by simp only [ev, envOf, val_set, ofValue, ofCell, ↓reduceIte, Nat.reduceEqDiff, v1, v3, v4, v8, v9, v12, v19, v20] <;> rfl)) rfl rfl ?_
                  refine o_nil ?_
                  refine w_seq ?_
                  refine w_region ?_
                  refine o_rd (r_loadN (cs := [.int .i64 (kw), .int .i64 (nw), sw]) Ty.agg24 Ty.csz24 (by simp only [ev, envOf, val_set, ofValue, ofCell, ↓reduceIte, Nat.reduceEqDiff, v1, v3, v4, v8, v9, v12, v19, v20] <;> rfl) (read_mt A21 (Nat.le_of_ble_eq_true rfl))) rfl rfl ?_
                  refine o_rd (r_move (by simp only [ev, envOf, val_set, ofValue, ofCell, ↓reduceIte, Nat.reduceEqDiff, v1, v3, v4, v8, v9, v12, v19, v20] <;> rfl)) rfl rfl ?_
                  rcases how : partV (V.mk kw nw lw) qs with _ | z
                  · skip
                    refine o_cl rfl rfl (by simp only [evs, ev, envOf, val_set, ofValue, ofCell, ↓reduceIte, Nat.reduceEqDiff, v1, v3, v4, v8, v9, v12, v19, v20] <;> rfl) rfl (part_not ho W82 (ka := kw) (na := nw) (hw.ext (Ext.put W19 (((((Ext.put W19 ((((((((Ext.put W19 (((Ext.put W19 ((Ext.refl W19).trans X20) (by omega) K21 n21 W21).trans X22).trans X23) (by omega) K24 n24 W24).trans X25).trans X26).trans X27).trans X28).trans X29).trans X31).trans X32) (by omega) K33 n33 W33).trans X34).trans EW).trans X80).trans X81) (by omega) K82 n82 W82)) (hQ.ext E82) (by omega) how) rfl rfl ?_; rintro _ H83 ⟨rfl, X83⟩
                    have W83 := X83.wf; have E83 := E82.trans X83
                    have A1 := X83.keep _ _ A1
                    have A2 := X83.keep _ _ A2
                    have A18 := X83.keep _ _ A18
                    have A21 := X83.keep _ _ A21
                    have A24 := X83.keep _ _ A24
                    have A33 := X83.keep _ _ A33
                    have A82 := X83.keep _ _ A82
                    have n83 := X83.n
                    refine o_rd (r_move (by simp only [ev, envOf, val_set, ofValue, ofCell, ↓reduceIte, Nat.reduceEqDiff, v1, v3, v4, v8, v9, v12, v19, v20] <;> rfl)) rfl rfl ?_
                    refine o_rd (r_extract (by simp only [ev, envOf, val_set, ofValue, ofCell, ↓reduceIte, Nat.reduceEqDiff, v1, v3, v4, v8, v9, v12, v19, v20] <;> rfl) rfl) rfl rfl ?_
                    refine o_rd (r_extract (by simp only [ev, envOf, val_set, ofValue, ofCell, ↓reduceIte, Nat.reduceEqDiff, v1, v3, v4, v8, v9, v12, v19, v20] <;> rfl) rfl) rfl rfl ?_
                    refine o_nw W83 (a_alloc Ty.zero24) rfl rfl rfl (by simp) ?_; intro H84 n84 W84 X84 A84
                    have A84 : H84.at H83.n = some (.row [.int .i64 (0), .int .i64 (0), .nils] 24 false none) := A84
                    have E84 := E83.trans X84
                    have g84 : H0.n ≤ H83.n := E83.n
                    have A1 := X84.keep _ _ A1
                    have A2 := X84.keep _ _ A2
                    have A18 := X84.keep _ _ A18
                    have A21 := X84.keep _ _ A21
                    have A24 := X84.keep _ _ A24
                    have A33 := X84.keep _ _ A33
                    have A82 := X84.keep _ _ A82
                    refine o_st W84 (by simp only [ev, envOf, val_set, ofValue, ofCell, ↓reduceIte, Nat.reduceEqDiff, v1, v3, v4, v8, v9, v12, v19, v20] <;> rfl) (by simp only [ev, envOf, val_set, ofValue, ofCell, ↓reduceIte, Nat.reduceEqDiff, v1, v3, v4, v8, v9, v12, v19, v20] <;> rfl) A84 Ty.csz24 rfl (Nat.le_of_ble_eq_true rfl) (by first | rfl | exact ones3 (SA.one' hx) | exact ones3 (SA.one' hw) | exact ones3 (SA.one' hn) | exact ones3 (SA.one' hk) | exact ones3 (SA.one' hy) | exact ones3 (SA.one' hz)) rfl rfl ?_; intro H85 n85 W85 A85 K85
                    have A85 : H85.at H83.n = some (.row [.int .i64 (0), .int .i64 (0), .nils] 24 false none) := A85
                    have E85 := Ext.put W0 E84 (by have := E84.n; omega) K85 n85 W85
                    have A1 := K85.own A1 (by omega)
                    have A2 := K85.own A2 (by omega)
                    have A18 := K85.own A18 (by omega)
                    have A21 := K85.own A21 (by omega)
                    have A24 := K85.own A24 (by omega)
                    have A33 := K85.own A33 (by omega)
                    have A82 := K85.own A82 (by omega)
                    refine o_rd (r_assign (by simp only [ev, envOf, val_set, ofValue, ofCell, ↓reduceIte, Nat.reduceEqDiff, v1, v3, v4, v8, v9, v12, v19, v20] <;> rfl)) rfl rfl ?_
                    refine o_nil ?_
                    refine w_seq ?_
                    refine w_region ?_
                    refine o_rd (r_move (by simp only [ev, envOf, val_set, ofValue, ofCell, ↓reduceIte, Nat.reduceEqDiff, v1, v3, v4, v8, v9, v12, v19, v20] <;> rfl)) rfl rfl ?_
                    refine o_rd (r_move (by simp only [ev, envOf, val_set, ofValue, ofCell, ↓reduceIte, Nat.reduceEqDiff, v1, v3, v4, v8, v9, v12, v19, v20] <;> rfl)) rfl rfl ?_
                    refine o_rd (r_move (by simp only [ev, envOf, val_set, ofValue, ofCell, ↓reduceIte, Nat.reduceEqDiff, v1, v3, v4, v8, v9, v12, v19, v20] <;> rfl)) rfl ((wanted_of (b := true) rfl rfl rfl (by simp only [val_set, ↓reduceIte, Nat.reduceEqDiff, v1, v3, v4, v8, v9, v12, v19, v20] <;> rfl)).trans rfl) ?_
                    refine o_rd (r_not (by simp only [ev, envOf, val_set, ofValue, ofCell, ↓reduceIte, Nat.reduceEqDiff, v1, v3, v4, v8, v9, v12, v19, v20] <;> rfl)) rfl ((wanted_of (b := true) rfl rfl rfl (by simp only [val_set, ↓reduceIte, Nat.reduceEqDiff, v1, v3, v4, v8, v9, v12, v19, v20] <;> rfl)).trans rfl) ?_
                    refine o_rd (r_move (by simp only [ev, envOf, val_set, ofValue, ofCell, ↓reduceIte, Nat.reduceEqDiff, v1, v3, v4, v8, v9, v12, v19, v20] <;> rfl)) rfl ((wanted_of (b := true) rfl rfl rfl (by simp only [val_set, ↓reduceIte, Nat.reduceEqDiff, v1, v3, v4, v8, v9, v12, v19, v20] <;> rfl)).trans rfl) ?_
                    refine o_sk rfl ((wanted_of (b := true) rfl rfl rfl (by simp only [val_set, ↓reduceIte, Nat.reduceEqDiff, v1, v3, v4, v8, v9, v12, v19, v20] <;> rfl)).trans rfl) ?_
                    refine o_sk rfl ((wanted_of (b := true) rfl rfl rfl (by simp only [val_set, ↓reduceIte, Nat.reduceEqDiff, v1, v3, v4, v8, v9, v12, v19, v20] <;> rfl)).trans rfl) ?_
                    refine o_sk rfl ((wanted_of (b := true) rfl rfl rfl (by simp only [val_set, ↓reduceIte, Nat.reduceEqDiff, v1, v3, v4, v8, v9, v12, v19, v20] <;> rfl)).trans rfl) ?_
                    refine o_sk rfl ((wanted_of (b := true) rfl rfl rfl (by simp only [val_set, ↓reduceIte, Nat.reduceEqDiff, v1, v3, v4, v8, v9, v12, v19, v20] <;> rfl)).trans rfl) ?_
                    refine o_sk rfl (wanted_no rfl rfl rfl (by simp only [val_set, ↓reduceIte, Nat.reduceEqDiff, v1, v3, v4, v8, v9, v12, v19, v20] <;> rfl)) ?_
                    refine o_sk rfl (wanted_no rfl rfl rfl (by simp only [val_set, ↓reduceIte, Nat.reduceEqDiff, v1, v3, v4, v8, v9, v12, v19, v20] <;> rfl)) ?_
                    refine o_sk rfl (wanted_no rfl rfl rfl (by simp only [val_set, ↓reduceIte, Nat.reduceEqDiff, v1, v3, v4, v8, v9, v12, v19, v20] <;> rfl)) ?_
                    refine o_sk rfl ((wanted_of (b := true) rfl rfl rfl (by simp only [val_set, ↓reduceIte, Nat.reduceEqDiff, v1, v3, v4, v8, v9, v12, v19, v20] <;> rfl)).trans rfl) ?_
                    refine o_rd (r_pick (t := true) (by simp only [ev, envOf, val_set, ofValue, ofCell, ↓reduceIte, Nat.reduceEqDiff, v1, v3, v4, v8, v9, v12, v19, v20] <;> rfl) (fun _ => (by simp only [ev, envOf, val_set, ofValue, ofCell, ↓reduceIte, Nat.reduceEqDiff, v1, v3, v4, v8, v9, v12, v19, v20] <;> rfl)) (fun h => by cases h)) rfl ((wanted_of (b := true) rfl rfl rfl (by simp only [val_set, ↓reduceIte, Nat.reduceEqDiff, v1, v3, v4, v8, v9, v12, v19, v20] <;> rfl)).trans rfl) ?_
                    refine o_rd (r_pick (t := true) (by simp only [ev, envOf, val_set, ofValue, ofCell, ↓reduceIte, Nat.reduceEqDiff, v1, v3, v4, v8, v9, v12, v19, v20] <;> rfl) (fun _ => (by simp only [ev, envOf, val_set, ofValue, ofCell, ↓reduceIte, Nat.reduceEqDiff, v1, v3, v4, v8, v9, v12, v19, v20] <;> rfl)) (fun h => by cases h)) rfl rfl ?_
                    refine o_rd (r_assign (by simp only [ev, envOf, val_set, ofValue, ofCell, ↓reduceIte, Nat.reduceEqDiff, v1, v3, v4, v8, v9, v12, v19, v20] <;> rfl)) rfl rfl ?_
                    refine o_nil ?_
                    refine w_ret ⟨.inr rfl, rfl, .bool (true), (show resultA Try.prog [.tmp 8] _ = _ by simp only [resultA, resultsA, envOf, val_set, ↓reduceIte, Nat.reduceEqDiff, Option.map_some, v1, v3, v4, v8, v9, v12, v19, v20] <;> rfl), ?_⟩
                    try dsimp only
                    exact ⟨by first | rfl | (exfalso; omega), E85⟩
                  · obtain ⟨kz, nz, lz⟩ := z
                    refine o_cl rfl rfl (by simp only [evs, ev, envOf, val_set, ofValue, ofCell, ↓reduceIte, Nat.reduceEqDiff, v1, v3, v4, v8, v9, v12, v19, v20] <;> rfl) rfl (part_at ho W82 (ka := kw) (na := nw) (hw.ext (Ext.put W19 (((((Ext.put W19 ((((((((Ext.put W19 (((Ext.put W19 ((Ext.refl W19).trans X20) (by omega) K21 n21 W21).trans X22).trans X23) (by omega) K24 n24 W24).trans X25).trans X26).trans X27).trans X28).trans X29).trans X31).trans X32) (by omega) K33 n33 W33).trans X34).trans EW).trans X80).trans X81) (by omega) K82 n82 W82)) (hQ.ext E82) (by omega) how) rfl rfl ?_; rintro _ H86 ⟨sz, rfl, hz, X86⟩
                    have W86 := X86.wf; have E86 := E82.trans X86
                    have A1 := X86.keep _ _ A1
                    have A2 := X86.keep _ _ A2
                    have A18 := X86.keep _ _ A18
                    have A21 := X86.keep _ _ A21
                    have A24 := X86.keep _ _ A24
                    have A33 := X86.keep _ _ A33
                    have A82 := X86.keep _ _ A82
                    have n86 := X86.n
                    refine o_rd (r_move (by simp only [ev, envOf, val_set, ofValue, ofCell, ↓reduceIte, Nat.reduceEqDiff, v1, v3, v4, v8, v9, v12, v19, v20] <;> rfl)) rfl rfl ?_
                    refine o_rd (r_extract (by simp only [ev, envOf, val_set, ofValue, ofCell, ↓reduceIte, Nat.reduceEqDiff, v1, v3, v4, v8, v9, v12, v19, v20] <;> rfl) rfl) rfl rfl ?_
                    refine o_rd (r_extract (by simp only [ev, envOf, val_set, ofValue, ofCell, ↓reduceIte, Nat.reduceEqDiff, v1, v3, v4, v8, v9, v12, v19, v20] <;> rfl) rfl) rfl rfl ?_
                    refine o_nw W86 (a_alloc Ty.zero24) rfl rfl rfl (by simp) ?_; intro H87 n87 W87 X87 A87
                    have A87 : H87.at H86.n = some (.row [.int .i64 (0), .int .i64 (0), .nils] 24 false none) := A87
                    have E87 := E86.trans X87
                    have g87 : H0.n ≤ H86.n := E86.n
                    have A1 := X87.keep _ _ A1
                    have A2 := X87.keep _ _ A2
                    have A18 := X87.keep _ _ A18
                    have A21 := X87.keep _ _ A21
                    have A24 := X87.keep _ _ A24
                    have A33 := X87.keep _ _ A33
                    have A82 := X87.keep _ _ A82
                    refine o_st W87 (by simp only [ev, envOf, val_set, ofValue, ofCell, ↓reduceIte, Nat.reduceEqDiff, v1, v3, v4, v8, v9, v12, v19, v20] <;> rfl) (by simp only [ev, envOf, val_set, ofValue, ofCell, ↓reduceIte, Nat.reduceEqDiff, v1, v3, v4, v8, v9, v12, v19, v20] <;> rfl) A87 Ty.csz24 rfl (Nat.le_of_ble_eq_true rfl) (by first | rfl | exact ones3 (SA.one' hx) | exact ones3 (SA.one' hw) | exact ones3 (SA.one' hn) | exact ones3 (SA.one' hk) | exact ones3 (SA.one' hy) | exact ones3 (SA.one' hz)) rfl rfl ?_; intro H88 n88 W88 A88 K88
                    have A88 : H88.at H86.n = some (.row [.int .i64 (kz), .int .i64 (nz), sz] 24 false none) := A88
                    have E88 := Ext.put W0 E87 (by have := E87.n; omega) K88 n88 W88
                    have A1 := K88.own A1 (by omega)
                    have A2 := K88.own A2 (by omega)
                    have A18 := K88.own A18 (by omega)
                    have A21 := K88.own A21 (by omega)
                    have A24 := K88.own A24 (by omega)
                    have A33 := K88.own A33 (by omega)
                    have A82 := K88.own A82 (by omega)
                    refine o_rd (r_assign (by simp only [ev, envOf, val_set, ofValue, ofCell, ↓reduceIte, Nat.reduceEqDiff, v1, v3, v4, v8, v9, v12, v19, v20] <;> rfl)) rfl rfl ?_
                    refine o_nil ?_
                    refine w_seq ?_
                    refine w_region ?_
                    refine o_rd (r_move (by simp only [ev, envOf, val_set, ofValue, ofCell, ↓reduceIte, Nat.reduceEqDiff, v1, v3, v4, v8, v9, v12, v19, v20] <;> rfl)) rfl rfl ?_
                    refine o_rd (r_move (by simp only [ev, envOf, val_set, ofValue, ofCell, ↓reduceIte, Nat.reduceEqDiff, v1, v3, v4, v8, v9, v12, v19, v20] <;> rfl)) rfl rfl ?_
                    refine o_rd (r_move (by simp only [ev, envOf, val_set, ofValue, ofCell, ↓reduceIte, Nat.reduceEqDiff, v1, v3, v4, v8, v9, v12, v19, v20] <;> rfl)) rfl ((wanted_of (b := true) rfl rfl rfl (by simp only [val_set, ↓reduceIte, Nat.reduceEqDiff, v1, v3, v4, v8, v9, v12, v19, v20] <;> rfl)).trans rfl) ?_
                    refine o_rd (r_not (by simp only [ev, envOf, val_set, ofValue, ofCell, ↓reduceIte, Nat.reduceEqDiff, v1, v3, v4, v8, v9, v12, v19, v20] <;> rfl)) rfl ((wanted_of (b := true) rfl rfl rfl (by simp only [val_set, ↓reduceIte, Nat.reduceEqDiff, v1, v3, v4, v8, v9, v12, v19, v20] <;> rfl)).trans rfl) ?_
                    refine o_rd (r_move (by simp only [ev, envOf, val_set, ofValue, ofCell, ↓reduceIte, Nat.reduceEqDiff, v1, v3, v4, v8, v9, v12, v19, v20] <;> rfl)) rfl ((wanted_of (b := true) rfl rfl rfl (by simp only [val_set, ↓reduceIte, Nat.reduceEqDiff, v1, v3, v4, v8, v9, v12, v19, v20] <;> rfl)).trans rfl) ?_
                    refine o_sk rfl ((wanted_of (b := true) rfl rfl rfl (by simp only [val_set, ↓reduceIte, Nat.reduceEqDiff, v1, v3, v4, v8, v9, v12, v19, v20] <;> rfl)).trans rfl) ?_
                    refine o_sk rfl ((wanted_of (b := true) rfl rfl rfl (by simp only [val_set, ↓reduceIte, Nat.reduceEqDiff, v1, v3, v4, v8, v9, v12, v19, v20] <;> rfl)).trans rfl) ?_
                    refine o_sk rfl ((wanted_of (b := true) rfl rfl rfl (by simp only [val_set, ↓reduceIte, Nat.reduceEqDiff, v1, v3, v4, v8, v9, v12, v19, v20] <;> rfl)).trans rfl) ?_
                    refine o_sk rfl ((wanted_of (b := true) rfl rfl rfl (by simp only [val_set, ↓reduceIte, Nat.reduceEqDiff, v1, v3, v4, v8, v9, v12, v19, v20] <;> rfl)).trans rfl) ?_
                    refine o_sk rfl (wanted_no rfl rfl rfl (by simp only [val_set, ↓reduceIte, Nat.reduceEqDiff, v1, v3, v4, v8, v9, v12, v19, v20] <;> rfl)) ?_
                    refine o_sk rfl (wanted_no rfl rfl rfl (by simp only [val_set, ↓reduceIte, Nat.reduceEqDiff, v1, v3, v4, v8, v9, v12, v19, v20] <;> rfl)) ?_
                    refine o_sk rfl (wanted_no rfl rfl rfl (by simp only [val_set, ↓reduceIte, Nat.reduceEqDiff, v1, v3, v4, v8, v9, v12, v19, v20] <;> rfl)) ?_
                    refine o_sk rfl ((wanted_of (b := true) rfl rfl rfl (by simp only [val_set, ↓reduceIte, Nat.reduceEqDiff, v1, v3, v4, v8, v9, v12, v19, v20] <;> rfl)).trans rfl) ?_
                    refine o_rd (r_pick (t := true) (by simp only [ev, envOf, val_set, ofValue, ofCell, ↓reduceIte, Nat.reduceEqDiff, v1, v3, v4, v8, v9, v12, v19, v20] <;> rfl) (fun _ => (by simp only [ev, envOf, val_set, ofValue, ofCell, ↓reduceIte, Nat.reduceEqDiff, v1, v3, v4, v8, v9, v12, v19, v20] <;> rfl)) (fun h => by cases h)) rfl ((wanted_of (b := true) rfl rfl rfl (by simp only [val_set, ↓reduceIte, Nat.reduceEqDiff, v1, v3, v4, v8, v9, v12, v19, v20] <;> rfl)).trans rfl) ?_
                    refine o_rd (r_pick (t := true) (by simp only [ev, envOf, val_set, ofValue, ofCell, ↓reduceIte, Nat.reduceEqDiff, v1, v3, v4, v8, v9, v12, v19, v20] <;> rfl) (fun _ => (by simp only [ev, envOf, val_set, ofValue, ofCell, ↓reduceIte, Nat.reduceEqDiff, v1, v3, v4, v8, v9, v12, v19, v20] <;> rfl)) (fun h => by cases h)) rfl rfl ?_
                    refine o_rd (r_assign (by simp only [ev, envOf, val_set, ofValue, ofCell, ↓reduceIte, Nat.reduceEqDiff, v1, v3, v4, v8, v9, v12, v19, v20] <;> rfl)) rfl rfl ?_
                    refine o_nil ?_
                    refine w_ret ⟨.inr rfl, rfl, .bool (true), (show resultA Try.prog [.tmp 8] _ = _ by simp only [resultA, resultsA, envOf, val_set, ↓reduceIte, Nat.reduceEqDiff, Option.map_some, v1, v3, v4, v8, v9, v12, v19, v20] <;> rfl), ?_⟩
                    try dsimp only
                    exact ⟨by first | rfl | (exfalso; omega), E88⟩
              · rw [hap] at v19
                rcases hov : partV (V.mk ka na la) qs with _ | y
                · have how := (hp4 qs hap).trans hov
                  refine o_cl rfl rfl (by simp only [evs, ev, envOf, val_set, ofValue, ofCell, ↓reduceIte, Nat.reduceEqDiff, v1, v3, v4, v8, v9, v12, v19, v20] <;> rfl) rfl (part_not ho W35 (ka := ka) (na := na) (ha.ext E35) (hQ.ext E35) (by omega) hov) rfl rfl ?_; rintro _ H89 ⟨rfl, X89⟩
                  have W89 := X89.wf; have E89 := E35.trans X89
                  have A1 := X89.keep _ _ A1
                  have A2 := X89.keep _ _ A2
                  have A18 := X89.keep _ _ A18
                  have A21 := X89.keep _ _ A21
                  have A24 := X89.keep _ _ A24
                  have A33 := X89.keep _ _ A33
                  have n89 := X89.n
                  refine o_rd (r_move (by simp only [ev, envOf, val_set, ofValue, ofCell, ↓reduceIte, Nat.reduceEqDiff, v1, v3, v4, v8, v9, v12, v19, v20] <;> rfl)) rfl rfl ?_
                  refine o_rd (r_extract (by simp only [ev, envOf, val_set, ofValue, ofCell, ↓reduceIte, Nat.reduceEqDiff, v1, v3, v4, v8, v9, v12, v19, v20] <;> rfl) rfl) rfl rfl ?_
                  refine o_rd (r_extract (by simp only [ev, envOf, val_set, ofValue, ofCell, ↓reduceIte, Nat.reduceEqDiff, v1, v3, v4, v8, v9, v12, v19, v20] <;> rfl) rfl) rfl rfl ?_
                  refine o_nw W89 (a_alloc Ty.zero24) rfl rfl rfl (by simp) ?_; intro H90 n90 W90 X90 A90
                  have A90 : H90.at H89.n = some (.row [.int .i64 (0), .int .i64 (0), .nils] 24 false none) := A90
                  have E90 := E89.trans X90
                  have g90 : H0.n ≤ H89.n := E89.n
                  have A1 := X90.keep _ _ A1
                  have A2 := X90.keep _ _ A2
                  have A18 := X90.keep _ _ A18
                  have A21 := X90.keep _ _ A21
                  have A24 := X90.keep _ _ A24
                  have A33 := X90.keep _ _ A33
                  refine o_st W90 (by simp only [ev, envOf, val_set, ofValue, ofCell, ↓reduceIte, Nat.reduceEqDiff, v1, v3, v4, v8, v9, v12, v19, v20] <;> rfl) (by simp only [ev, envOf, val_set, ofValue, ofCell, ↓reduceIte, Nat.reduceEqDiff, v1, v3, v4, v8, v9, v12, v19, v20] <;> rfl) A90 Ty.csz24 rfl (Nat.le_of_ble_eq_true rfl) (by first | rfl | exact ones3 (SA.one' hx) | exact ones3 (SA.one' hw) | exact ones3 (SA.one' hn) | exact ones3 (SA.one' hk) | exact ones3 (SA.one' hy) | exact ones3 (SA.one' hz)) rfl rfl ?_; intro H91 n91 W91 A91 K91
                  have A91 : H91.at H89.n = some (.row [.int .i64 (0), .int .i64 (0), .nils] 24 false none) := A91
                  have E91 := Ext.put W0 E90 (by have := E90.n; omega) K91 n91 W91
                  have A1 := K91.own A1 (by omega)
                  have A2 := K91.own A2 (by omega)
                  have A18 := K91.own A18 (by omega)
                  have A21 := K91.own A21 (by omega)
                  have A24 := K91.own A24 (by omega)
                  have A33 := K91.own A33 (by omega)
                  refine o_rd (r_assign (by simp only [ev, envOf, val_set, ofValue, ofCell, ↓reduceIte, Nat.reduceEqDiff, v1, v3, v4, v8, v9, v12, v19, v20] <;> rfl)) rfl rfl ?_
                  refine o_nil ?_
                  refine w_seq ?_
                  refine w_region ?_
                  refine o_rd (r_loadN (cs := [.int .i64 (kw), .int .i64 (nw), sw]) Ty.agg24 Ty.csz24 (by simp only [ev, envOf, val_set, ofValue, ofCell, ↓reduceIte, Nat.reduceEqDiff, v1, v3, v4, v8, v9, v12, v19, v20] <;> rfl) (read_mt A21 (Nat.le_of_ble_eq_true rfl))) rfl rfl ?_
                  refine o_rd (r_move (by simp only [ev, envOf, val_set, ofValue, ofCell, ↓reduceIte, Nat.reduceEqDiff, v1, v3, v4, v8, v9, v12, v19, v20] <;> rfl)) rfl rfl ?_
                  refine o_cl rfl rfl (by simp only [evs, ev, envOf, val_set, ofValue, ofCell, ↓reduceIte, Nat.reduceEqDiff, v1, v3, v4, v8, v9, v12, v19, v20] <;> rfl) rfl (part_not ho W91 (ka := kw) (na := nw) (hw.ext (Ext.put W19 (((((Ext.put W19 ((((((((Ext.put W19 (((Ext.put W19 ((Ext.refl W19).trans X20) (by omega) K21 n21 W21).trans X22).trans X23) (by omega) K24 n24 W24).trans X25).trans X26).trans X27).trans X28).trans X29).trans X31).trans X32) (by omega) K33 n33 W33).trans X34).trans EW).trans X89).trans X90) (by omega) K91 n91 W91)) (hQ.ext E91) (by omega) how) rfl rfl ?_; rintro _ H92 ⟨rfl, X92⟩
                  have W92 := X92.wf; have E92 := E91.trans X92
                  have A1 := X92.keep _ _ A1
                  have A2 := X92.keep _ _ A2
                  have A18 := X92.keep _ _ A18
                  have A21 := X92.keep _ _ A21
                  have A24 := X92.keep _ _ A24
                  have A33 := X92.keep _ _ A33
                  have A91 := X92.keep _ _ A91
                  have n92 := X92.n
                  refine o_rd (r_move (by simp only [ev, envOf, val_set, ofValue, ofCell, ↓reduceIte, Nat.reduceEqDiff, v1, v3, v4, v8, v9, v12, v19, v20] <;> rfl)) rfl rfl ?_
                  refine o_rd (r_extract (by simp only [ev, envOf, val_set, ofValue, ofCell, ↓reduceIte, Nat.reduceEqDiff, v1, v3, v4, v8, v9, v12, v19, v20] <;> rfl) rfl) rfl rfl ?_
                  refine o_rd (r_extract (by simp only [ev, envOf, val_set, ofValue, ofCell, ↓reduceIte, Nat.reduceEqDiff, v1, v3, v4, v8, v9, v12, v19, v20] <;> rfl) rfl) rfl rfl ?_
                  refine o_nw W92 (a_alloc Ty.zero24) rfl rfl rfl (by simp) ?_; intro H93 n93 W93 X93 A93
                  have A93 : H93.at H92.n = some (.row [.int .i64 (0), .int .i64 (0), .nils] 24 false none) := A93
                  have E93 := E92.trans X93
                  have g93 : H0.n ≤ H92.n := E92.n
                  have A1 := X93.keep _ _ A1
                  have A2 := X93.keep _ _ A2
                  have A18 := X93.keep _ _ A18
                  have A21 := X93.keep _ _ A21
                  have A24 := X93.keep _ _ A24
                  have A33 := X93.keep _ _ A33
                  have A91 := X93.keep _ _ A91
                  refine o_st W93 (by simp only [ev, envOf, val_set, ofValue, ofCell, ↓reduceIte, Nat.reduceEqDiff, v1, v3, v4, v8, v9, v12, v19, v20] <;> rfl) (by simp only [ev, envOf, val_set, ofValue, ofCell, ↓reduceIte, Nat.reduceEqDiff, v1, v3, v4, v8, v9, v12, v19, v20] <;> rfl) A93 Ty.csz24 rfl (Nat.le_of_ble_eq_true rfl) (by first | rfl | exact ones3 (SA.one' hx) | exact ones3 (SA.one' hw) | exact ones3 (SA.one' hn) | exact ones3 (SA.one' hk) | exact ones3 (SA.one' hy) | exact ones3 (SA.one' hz)) rfl rfl ?_; intro H94 n94 W94 A94 K94
                  have A94 : H94.at H92.n = some (.row [.int .i64 (0), .int .i64 (0), .nils] 24 false none) := A94
                  have E94 := Ext.put W0 E93 (by have := E93.n; omega) K94 n94 W94
                  have A1 := K94.own A1 (by omega)
                  have A2 := K94.own A2 (by omega)
                  have A18 := K94.own A18 (by omega)
                  have A21 := K94.own A21 (by omega)
                  have A24 := K94.own A24 (by omega)
                  have A33 := K94.own A33 (by omega)
                  have A91 := K94.own A91 (by omega)
                  refine o_rd (r_assign (by simp only [ev, envOf, val_set, ofValue, ofCell, ↓reduceIte, Nat.reduceEqDiff, v1, v3, v4, v8, v9, v12, v19, v20] <;> rfl)) rfl rfl ?_
                  refine o_nil ?_
                  refine w_seq ?_
                  refine w_region ?_
                  refine o_rd (r_move (by simp only [ev, envOf, val_set, ofValue, ofCell, ↓reduceIte, Nat.reduceEqDiff, v1, v3, v4, v8, v9, v12, v19, v20] <;> rfl)) rfl rfl ?_
                  refine o_rd (r_move (by simp only [ev, envOf, val_set, ofValue, ofCell, ↓reduceIte, Nat.reduceEqDiff, v1, v3, v4, v8, v9, v12, v19, v20] <;> rfl)) rfl rfl ?_
                  refine o_rd (r_move (by simp only [ev, envOf, val_set, ofValue, ofCell, ↓reduceIte, Nat.reduceEqDiff, v1, v3, v4, v8, v9, v12, v19, v20] <;> rfl)) rfl ((wanted_of (b := true) rfl rfl rfl (by simp only [val_set, ↓reduceIte, Nat.reduceEqDiff, v1, v3, v4, v8, v9, v12, v19, v20] <;> rfl)).trans rfl) ?_
                  refine o_rd (r_not (by simp only [ev, envOf, val_set, ofValue, ofCell, ↓reduceIte, Nat.reduceEqDiff, v1, v3, v4, v8, v9, v12, v19, v20] <;> rfl)) rfl ((wanted_of (b := true) rfl rfl rfl (by simp only [val_set, ↓reduceIte, Nat.reduceEqDiff, v1, v3, v4, v8, v9, v12, v19, v20] <;> rfl)).trans rfl) ?_
                  refine o_rd (r_move (by simp only [ev, envOf, val_set, ofValue, ofCell, ↓reduceIte, Nat.reduceEqDiff, v1, v3, v4, v8, v9, v12, v19, v20] <;> rfl)) rfl ((wanted_of (b := true) rfl rfl rfl (by simp only [val_set, ↓reduceIte, Nat.reduceEqDiff, v1, v3, v4, v8, v9, v12, v19, v20] <;> rfl)).trans rfl) ?_
                  refine o_rd (r_move (by simp only [ev, envOf, val_set, ofValue, ofCell, ↓reduceIte, Nat.reduceEqDiff, v1, v3, v4, v8, v9, v12, v19, v20] <;> rfl)) rfl ((wanted_of (b := false) rfl rfl rfl (by simp only [val_set, ↓reduceIte, Nat.reduceEqDiff, v1, v3, v4, v8, v9, v12, v19, v20] <;> rfl)).trans rfl) ?_
                  refine o_rd (r_move (by simp only [ev, envOf, val_set, ofValue, ofCell, ↓reduceIte, Nat.reduceEqDiff, v1, v3, v4, v8, v9, v12, v19, v20] <;> rfl)) rfl ((wanted_of (b := false) rfl rfl rfl (by simp only [val_set, ↓reduceIte, Nat.reduceEqDiff, v1, v3, v4, v8, v9, v12, v19, v20] <;> rfl)).trans rfl) ?_
                  refine o_rd (r_eqB Try.underlying4 (by simp only [ev, envOf, val_set, ofValue, ofCell, ↓reduceIte, Nat.reduceEqDiff, v1, v3, v4, v8, v9, v12, v19, v20] <;> rfl) (by simp only [ev, envOf, val_set, ofValue, ofCell, ↓reduceIte, Nat.reduceEqDiff, v1, v3, v4, v8, v9, v12, v19, v20] <;> rfl)) rfl ((wanted_of (b := false) rfl rfl rfl (by simp only [val_set, ↓reduceIte, Nat.reduceEqDiff, v1, v3, v4, v8, v9, v12, v19, v20] <;> rfl)).trans rfl) ?_
                  refine o_rd (r_move (by simp only [ev, envOf, val_set, ofValue, ofCell, ↓reduceIte, Nat.reduceEqDiff, v1, v3, v4, v8, v9, v12, v19, v20] <;> rfl)) rfl ((wanted_of (b := false) rfl rfl rfl (by simp only [val_set, ↓reduceIte, Nat.reduceEqDiff, v1, v3, v4, v8, v9, v12, v19, v20] <;> rfl)).trans rfl) ?_
                  refine o_rd (r_loadN (cs := [.int .i64 (0), .int .i64 (0), .nils]) Ty.agg24 Ty.csz24 (by simp only [ev, envOf, val_set, ofValue, ofCell, ↓reduceIte, Nat.reduceEqDiff, v1, v3, v4, v8, v9, v12, v19, v20] <;> rfl) (read_mt A91 (Nat.le_of_ble_eq_true rfl))) rfl ((wanted_of (b := true) rfl rfl rfl (by simp only [val_set, ↓reduceIte, Nat.reduceEqDiff, v1, v3, v4, v8, v9, v12, v19, v20] <;> rfl)).trans rfl) ?_
                  refine o_rd (r_loadN (cs := [.int .i64 (0), .int .i64 (0), .nils]) Ty.agg24 Ty.csz24 (by simp only [ev, envOf, val_set, ofValue, ofCell, ↓reduceIte, Nat.reduceEqDiff, v1, v3, v4, v8, v9, v12, v19, v20] <;> rfl) (read_mt A94 (Nat.le_of_ble_eq_true rfl))) rfl ((wanted_of (b := true) rfl rfl rfl (by simp only [val_set, ↓reduceIte, Nat.reduceEqDiff, v1, v3, v4, v8, v9, v12, v19, v20] <;> rfl)).trans rfl) ?_
                  refine o_cl rfl rfl (by simp only [evs, ev, envOf, val_set, ofValue, ofCell, ↓reduceIte, Nat.reduceEqDiff, v1, v3, v4, v8, v9, v12, v19, v20] <;> rfl) rfl (same_selfP ho W94 (VA.mk (0) (0) [] _ .nil) (VA.mk (0) (0) [] _ .nil)) rfl ((wanted_of (b := true) rfl rfl rfl (by simp only [val_set, ↓reduceIte, Nat.reduceEqDiff, v1, v3, v4, v8, v9, v12, v19, v20] <;> rfl)).trans rfl) ?_; rintro _ H95 ⟨rfl, X95⟩
                  have W95 := X95.wf; have E95 := E94.trans X95
                  have A1 := X95.keep _ _ A1
                  have A2 := X95.keep _ _ A2
                  have A18 := X95.keep _ _ A18
                  have A21 := X95.keep _ _ A21
                  have A24 := X95.keep _ _ A24
                  have A33 := X95.keep _ _ A33
                  have A91 := X95.keep _ _ A91
                  have A94 := X95.keep _ _ A94
                  have n95 := X95.n
                  refine o_rd (r_pick (t := true) (by simp only [ev, envOf, val_set, ofValue, ofCell, ↓reduceIte, Nat.reduceEqDiff, v1, v3, v4, v8, v9, v12, v19, v20] <;> rfl) (fun _ => (by simp only [ev, envOf, val_set, ofValue, ofCell, ↓reduceIte, Nat.reduceEqDiff, v1, v3, v4, v8, v9, v12, v19, v20] <;> rfl)) (fun h => by cases h)) rfl ((wanted_of (b := false) rfl rfl rfl (by simp only [val_set, ↓reduceIte, Nat.reduceEqDiff, v1, v3, v4, v8, v9, v12, v19, v20] <;> rfl)).trans rfl) ?_
                  refine o_rd (r_pick (t := false) (by simp only [ev, envOf, val_set, ofValue, ofCell, ↓reduceIte, Nat.reduceEqDiff, v1, v3, v4, v8, v9, v12, v19, v20] <;> rfl) (fun h => by cases h) (fun _ => (by simp only [ev, envOf, val_set, ofValue, ofCell, ↓reduceIte, Nat.reduceEqDiff, v1, v3, v4, v8, v9, v12, v19, v20] <;> rfl))) rfl ((wanted_of (b := true) rfl rfl rfl (by simp only [val_set, ↓reduceIte, Nat.reduceEqDiff, v1, v3, v4, v8, v9, v12, v19, v20] <;> rfl)).trans rfl) ?_
                  refine o_rd (r_pick (t := true) (by simp only [ev, envOf, val_set, ofValue, ofCell, ↓reduceIte, Nat.reduceEqDiff, v1, v3, v4, v8, v9, v12, v19, v20] <;> rfl) (fun _ => (by simp only [ev, envOf, val_set, ofValue, ofCell, ↓reduceIte, Nat.reduceEqDiff, v1, v3, v4, v8, v9, v12, v19, v20] <;> rfl)) (fun h => by cases h)) rfl rfl ?_
                  refine o_rd (r_assign (by simp only [ev, envOf, val_set, ofValue, ofCell, ↓reduceIte, Nat.reduceEqDiff, v1, v3, v4, v8, v9, v12, v19, v20] <;> rfl)) rfl rfl ?_
                  refine o_nil ?_
                  refine w_ret ⟨.inr rfl, rfl, .bool (true), (show resultA Try.prog [.tmp 8] _ = _ by simp only [resultA, resultsA, envOf, val_set, ↓reduceIte, Nat.reduceEqDiff, Option.map_some, v1, v3, v4, v8, v9, v12, v19, v20] <;> rfl), ?_⟩
                  try dsimp only
                  exact ⟨by first | rfl | (exfalso; omega), E95⟩
                · obtain ⟨ky, ny, ly⟩ := y
                  have how := (hp4 qs hap).trans hov
                  refine o_cl rfl rfl (by simp only [evs, ev, envOf, val_set, ofValue, ofCell, ↓reduceIte, Nat.reduceEqDiff, v1, v3, v4, v8, v9, v12, v19, v20] <;> rfl) rfl (part_at ho W35 (ka := ka) (na := na) (ha.ext E35) (hQ.ext E35) (by omega) hov) rfl rfl ?_; rintro _ H96 ⟨sy, rfl, hy, X96⟩
                  have W96 := X96.wf; have E96 := E35.trans X96
                  have A1 := X96.keep _ _ A1
                  have A2 := X96.keep _ _ A2
                  have A18 := X96.keep _ _ A18
                  have A21 := X96.keep _ _ A21
                  have A24 := X96.keep _ _ A24
                  have A33 := X96.keep _ _ A33
                  have n96 := X96.n
                  refine o_rd (r_move (by simp only [ev, envOf, val_set, ofValue, ofCell, ↓reduceIte, Nat.reduceEqDiff, v1, v3, v4, v8, v9, v12, v19, v20] <;> rfl)) rfl rfl ?_
                  refine o_rd (r_extract (by simp only [ev, envOf, val_set, ofValue, ofCell, ↓reduceIte, Nat.reduceEqDiff, v1, v3, v4, v8, v9, v12, v19, v20] <;> rfl) rfl) rfl rfl ?_
                  refine o_rd (r_extract (by simp only [ev, envOf, val_set, ofValue, ofCell, ↓reduceIte, Nat.reduceEqDiff, v1, v3, v4, v8, v9, v12, v19, v20] <;> rfl) rfl) rfl rfl ?_
                  refine o_nw W96 (a_alloc Ty.zero24) rfl rfl rfl (by simp) ?_; intro H97 n97 W97 X97 A97
                  have A97 : H97.at H96.n = some (.row [.int .i64 (0), .int .i64 (0), .nils] 24 false none) := A97
                  have E97 := E96.trans X97
                  have g97 : H0.n ≤ H96.n := E96.n
                  have A1 := X97.keep _ _ A1
                  have A2 := X97.keep _ _ A2
                  have A18 := X97.keep _ _ A18
                  have A21 := X97.keep _ _ A21
                  have A24 := X97.keep _ _ A24
                  have A33 := X97.keep _ _ A33
                  refine o_st W97 (by simp only [ev, envOf, val_set, ofValue, ofCell, ↓reduceIte, Nat.reduceEqDiff, v1, v3, v4, v8, v9, v12, v19, v20] <;> rfl) (by simp only [ev, envOf, val_set, ofValue, ofCell, ↓reduceIte, Nat.reduceEqDiff, v1, v3, v4, v8, v9, v12, v19, v20] <;> rfl) A97 Ty.csz24 rfl (Nat.le_of_ble_eq_true rfl) (by first | rfl | exact ones3 (SA.one' hx) | exact ones3 (SA.one' hw) | exact ones3 (SA.one' hn) | exact ones3 (SA.one' hk) | exact ones3 (SA.one' hy) | exact ones3 (SA.one' hz)) rfl rfl ?_; intro H98 n98 W98 A98 K98
                  have A98 : H98.at H96.n = some (.row [.int .i64 (ky), .int .i64 (ny), sy] 24 false none) := A98
                  have E98 := Ext.put W0 E97 (by have := E97.n; omega) K98 n98 W98
                  have A1 := K98.own A1 (by omega)
                  have A2 := K98.own A2 (by omega)
                  have A18 := K98.own A18 (by omega)
                  have A21 := K98.own A21 (by omega)
                  have A24 := K98.own A24 (by omega)
                  have A33 := K98.own A33 (by omega)
                  refine o_rd (r_assign (by simp only [ev, envOf, val_set, ofValue, ofCell, ↓reduceIte, Nat.reduceEqDiff, v1, v3, v4, v8, v9, v12, v19, v20] <;> rfl)) rfl rfl ?_
                  refine o_nil ?_
                  refine w_seq ?_
                  refine w_region ?_
                  refine o_rd (r_loadN (cs := [.int .i64 (kw), .int .i64 (nw), sw]) Ty.agg24 Ty.csz24 (by simp only [ev, envOf, val_set, ofValue, ofCell, ↓reduceIte, Nat.reduceEqDiff, v1, v3, v4, v8, v9, v12, v19, v20] <;> rfl) (read_mt A21 (Nat.le_of_ble_eq_true rfl))) rfl rfl ?_
                  refine o_rd (r_move (by simp only [ev, envOf, val_set, ofValue, ofCell, ↓reduceIte, Nat.reduceEqDiff, v1, v3, v4, v8, v9, v12, v19, v20] <;> rfl)) rfl rfl ?_
                  refine o_cl rfl rfl (by simp only [evs, ev, envOf, val_set, ofValue, ofCell, ↓reduceIte, Nat.reduceEqDiff, v1, v3, v4, v8, v9, v12, v19, v20] <;> rfl) rfl (part_at ho W98 (ka := kw) (na := nw) (hw.ext (Ext.put W19 (((((Ext.put W19 ((((((((Ext.put W19 (((Ext.put W19 ((Ext.refl W19).trans X20) (by omega) K21 n21 W21).trans X22).trans X23) (by omega) K24 n24 W24).trans X25).trans X26).trans X27).trans X28).trans X29).trans X31).trans X32) (by omega) K33 n33 W33).trans X34).trans EW).trans X96).trans X97) (by omega) K98 n98 W98)) (hQ.ext E98) (by omega) how) rfl rfl ?_; rintro _ H99 ⟨sz, rfl, hz, X99⟩
                  have W99 := X99.wf; have E99 := E98.trans X99
                  have A1 := X99.keep _ _ A1
                  have A2 := X99.keep _ _ A2
                  have A18 := X99.keep _ _ A18
                  have A21 := X99.keep _ _ A21
                  have A24 := X99.keep _ _ A24
                  have A33 := X99.keep _ _ A33
                  have A98 := X99.keep _ _ A98
                  have n99 := X99.n
                  refine o_rd (r_move (by simp only [ev, envOf, val_set, ofValue, ofCell, ↓reduceIte, Nat.reduceEqDiff, v1, v3, v4, v8, v9, v12, v19, v20] <;> rfl)) rfl rfl ?_
                  refine o_rd (r_extract (by simp only [ev, envOf, val_set, ofValue, ofCell, ↓reduceIte, Nat.reduceEqDiff, v1, v3, v4, v8, v9, v12, v19, v20] <;> rfl) rfl) rfl rfl ?_
                  refine o_rd (r_extract (by simp only [ev, envOf, val_set, ofValue, ofCell, ↓reduceIte, Nat.reduceEqDiff, v1, v3, v4, v8, v9, v12, v19, v20] <;> rfl) rfl) rfl rfl ?_
                  refine o_nw W99 (a_alloc Ty.zero24) rfl rfl rfl (by simp) ?_; intro H100 n100 W100 X100 A100
                  have A100 : H100.at H99.n = some (.row [.int .i64 (0), .int .i64 (0), .nils] 24 false none) := A100
                  have E100 := E99.trans X100
                  have g100 : H0.n ≤ H99.n := E99.n
                  have A1 := X100.keep _ _ A1
                  have A2 := X100.keep _ _ A2
                  have A18 := X100.keep _ _ A18
                  have A21 := X100.keep _ _ A21
                  have A24 := X100.keep _ _ A24
                  have A33 := X100.keep _ _ A33
                  have A98 := X100.keep _ _ A98
                  refine o_st W100 (by simp only [ev, envOf, val_set, ofValue, ofCell, ↓reduceIte, Nat.reduceEqDiff, v1, v3, v4, v8, v9, v12, v19, v20] <;> rfl) (by simp only [ev, envOf, val_set, ofValue, ofCell, ↓reduceIte, Nat.reduceEqDiff, v1, v3, v4, v8, v9, v12, v19, v20] <;> rfl) A100 Ty.csz24 rfl (Nat.le_of_ble_eq_true rfl) (by first | rfl | exact ones3 (SA.one' hx) | exact ones3 (SA.one' hw) | exact ones3 (SA.one' hn) | exact ones3 (SA.one' hk) | exact ones3 (SA.one' hy) | exact ones3 (SA.one' hz)) rfl rfl ?_; intro H101 n101 W101 A101 K101
                  have A101 : H101.at H99.n = some (.row [.int .i64 (ky), .int .i64 (ny), sz] 24 false none) := A101
                  have E101 := Ext.put W0 E100 (by have := E100.n; omega) K101 n101 W101
                  have A1 := K101.own A1 (by omega)
                  have A2 := K101.own A2 (by omega)
                  have A18 := K101.own A18 (by omega)
                  have A21 := K101.own A21 (by omega)
                  have A24 := K101.own A24 (by omega)
                  have A33 := K101.own A33 (by omega)
                  have A98 := K101.own A98 (by omega)
                  refine o_rd (r_assign (by simp only [ev, envOf, val_set, ofValue, ofCell, ↓reduceIte, Nat.reduceEqDiff, v1, v3, v4, v8, v9, v12, v19, v20] <;> rfl)) rfl rfl ?_
                  refine o_nil ?_
                  refine w_seq ?_
                  refine w_region ?_
                  refine o_rd (r_move (by simp only [ev, envOf, val_set, ofValue, ofCell, ↓reduceIte, Nat.reduceEqDiff, v1, v3, v4, v8, v9, v12, v19, v20] <;> rfl)) rfl rfl ?_
                  refine o_rd (r_move (by simp only [ev, envOf, val_set, ofValue, ofCell, ↓reduceIte, Nat.reduceEqDiff, v1, v3, v4, v8, v9, v12, v19, v20] <;> rfl)) rfl rfl ?_
                  refine o_rd (r_move (by simp only [ev, envOf, val_set, ofValue, ofCell, ↓reduceIte, Nat.reduceEqDiff, v1, v3, v4, v8, v9, v12, v19, v20] <;> rfl)) rfl ((wanted_of (b := true) rfl rfl rfl (by simp only [val_set, ↓reduceIte, Nat.reduceEqDiff, v1, v3, v4, v8, v9, v12, v19, v20] <;> rfl)).trans rfl) ?_
                  refine o_rd (r_not (by simp only [ev, envOf, val_set, ofValue, ofCell, ↓reduceIte, Nat.reduceEqDiff, v1, v3, v4, v8, v9, v12, v19, v20] <;> rfl)) rfl ((wanted_of (b := true) rfl rfl rfl (by simp only [val_set, ↓reduceIte, Nat.reduceEqDiff, v1, v3, v4, v8, v9, v12, v19, v20] <;> rfl)).trans rfl) ?_
                  refine o_rd (r_move (by simp only [ev, envOf, val_set, ofValue, ofCell, ↓reduceIte, Nat.reduceEqDiff, v1, v3, v4, v8, v9, v12, v19, v20] <;> rfl)) rfl ((wanted_of (b := true) rfl rfl rfl (by simp only [val_set, ↓reduceIte, Nat.reduceEqDiff, v1, v3, v4, v8, v9, v12, v19, v20] <;> rfl)).trans rfl) ?_
                  refine o_rd (r_move (by simp only [ev, envOf, val_set, ofValue, ofCell, ↓reduceIte, Nat.reduceEqDiff, v1, v3, v4, v8, v9, v12, v19, v20] <;> rfl)) rfl ((wanted_of (b := false) rfl rfl rfl (by simp only [val_set, ↓reduceIte, Nat.reduceEqDiff, v1, v3, v4, v8, v9, v12, v19, v20] <;> rfl)).trans rfl) ?_
                  refine o_rd (r_move (by simp only [ev, envOf, val_set, ofValue, ofCell, ↓reduceIte, Nat.reduceEqDiff, v1, v3, v4, v8, v9, v12, v19, v20] <;> rfl)) rfl ((wanted_of (b := false) rfl rfl rfl (by simp only [val_set, ↓reduceIte, Nat.reduceEqDiff, v1, v3, v4, v8, v9, v12, v19, v20] <;> rfl)).trans rfl) ?_
                  refine o_rd (r_eqB Try.underlying4 (by simp only [ev, envOf, val_set, ofValue, ofCell, ↓reduceIte, Nat.reduceEqDiff, v1, v3, v4, v8, v9, v12, v19, v20] <;> rfl) (by simp only [ev, envOf, val_set, ofValue, ofCell, ↓reduceIte, Nat.reduceEqDiff, v1, v3, v4, v8, v9, v12, v19, v20] <;> rfl)) rfl ((wanted_of (b := false) rfl rfl rfl (by simp only [val_set, ↓reduceIte, Nat.reduceEqDiff, v1, v3, v4, v8, v9, v12, v19, v20] <;> rfl)).trans rfl) ?_
                  refine o_rd (r_move (by simp only [ev, envOf, val_set, ofValue, ofCell, ↓reduceIte, Nat.reduceEqDiff, v1, v3, v4, v8, v9, v12, v19, v20] <;> rfl)) rfl ((wanted_of (b := false) rfl rfl rfl (by simp only [val_set, ↓reduceIte, Nat.reduceEqDiff, v1, v3, v4, v8, v9, v12, v19, v20] <;> rfl)).trans rfl) ?_
                  refine o_rd (r_loadN (cs := [.int .i64 (ky), .int .i64 (ny), sy]) Ty.agg24 Ty.csz24 (by simp only [ev, envOf, val_set, ofValue, ofCell, ↓reduceIte, Nat.reduceEqDiff, v1, v3, v4, v8, v9, v12, v19, v20] <;> rfl) (read_mt A98 (Nat.le_of_ble_eq_true rfl))) rfl ((wanted_of (b := true) rfl rfl rfl (by simp only [val_set, ↓reduceIte, Nat.reduceEqDiff, v1, v3, v4, v8, v9, v12, v19, v20] <;> rfl)).trans rfl) ?_
                  refine o_rd (r_loadN (cs := [.int .i64 (ky), .int .i64 (ny), sz]) Ty.agg24 Ty.csz24 (by simp only [ev, envOf, val_set, ofValue, ofCell, ↓reduceIte, Nat.reduceEqDiff, v1, v3, v4, v8, v9, v12, v19, v20] <;> rfl) (read_mt A101 (Nat.le_of_ble_eq_true rfl))) rfl ((wanted_of (b := true) rfl rfl rfl (by simp only [val_set, ↓reduceIte, Nat.reduceEqDiff, v1, v3, v4, v8, v9, v12, v19, v20] <;> rfl)).trans rfl) ?_
                  refine o_cl rfl rfl (by simp only [evs, ev, envOf, val_set, ofValue, ofCell, ↓reduceIte, Nat.reduceEqDiff, v1, v3, v4, v8, v9, v12, v19, v20] <;> rfl) rfl (same_selfP ho W101 (VA.mk (ky) (ny) ly _ (hy.ext (Ext.put W96 (((Ext.put W96 ((Ext.refl W96).trans X97) (by omega) K98 n98 W98).trans X99).trans X100) (by omega) K101 n101 W101))) (VA.mk (ky) (ny) ly _ (hz.ext (Ext.put W99 ((Ext.refl W99).trans X100) (by omega) K101 n101 W101)))) rfl ((wanted_of (b := true) rfl rfl rfl (by simp only [val_set, ↓reduceIte, Nat.reduceEqDiff, v1, v3, v4, v8, v9, v12, v19, v20] <;> rfl)).trans rfl) ?_; rintro _ H102 ⟨rfl, X102⟩
                  have W102 := X102.wf; have E102 := E101.trans X102
                  have A1 := X102.keep _ _ A1
                  have A2 := X102.keep _ _ A2
                  have A18 := X102.keep _ _ A18
                  have A21 := X102.keep _ _ A21
                  have A24 := X102.keep _ _ A24
                  have A33 := X102.keep _ _ A33
                  have A98 := X102.keep _ _ A98
                  have A101 := X102.keep _ _ A101
                  have n102 := X102.n
                  refine o_rd (r_pick (t := true) (by simp only [ev, envOf, val_set, ofValue, ofCell, ↓reduceIte, Nat.reduceEqDiff, v1, v3, v4, v8, v9, v12, v19, v20] <;> rfl) (fun _ => (by simp only [ev, envOf, val_set, ofValue, ofCell, ↓reduceIte, Nat.reduceEqDiff, v1, v3, v4, v8, v9, v12, v19, v20] <;> rfl)) (fun h => by cases h)) rfl ((wanted_of (b := false) rfl rfl rfl (by simp only [val_set, ↓reduceIte, Nat.reduceEqDiff, v1, v3, v4, v8, v9, v12, v19, v20] <;> rfl)).trans rfl) ?_
                  refine o_rd (r_pick (t := false) (by simp only [ev, envOf, val_set, ofValue, ofCell, ↓reduceIte, Nat.reduceEqDiff, v1, v3, v4, v8, v9, v12, v19, v20] <;> rfl) (fun h => by cases h) (fun _ => (by simp only [ev, envOf, val_set, ofValue, ofCell, ↓reduceIte, Nat.reduceEqDiff, v1, v3, v4, v8, v9, v12, v19, v20] <;> rfl))) rfl ((wanted_of (b := true) rfl rfl rfl (by simp only [val_set, ↓reduceIte, Nat.reduceEqDiff, v1, v3, v4, v8, v9, v12, v19, v20] <;> rfl)).trans rfl) ?_
                  refine o_rd (r_pick (t := true) (by simp only [ev, envOf, val_set, ofValue, ofCell, ↓reduceIte, Nat.reduceEqDiff, v1, v3, v4, v8, v9, v12, v19, v20] <;> rfl) (fun _ => (by simp only [ev, envOf, val_set, ofValue, ofCell, ↓reduceIte, Nat.reduceEqDiff, v1, v3, v4, v8, v9, v12, v19, v20] <;> rfl)) (fun h => by cases h)) rfl rfl ?_
                  refine o_rd (r_assign (by simp only [ev, envOf, val_set, ofValue, ofCell, ↓reduceIte, Nat.reduceEqDiff, v1, v3, v4, v8, v9, v12, v19, v20] <;> rfl)) rfl rfl ?_
                  refine o_nil ?_
                  refine w_ret ⟨.inr rfl, rfl, .bool (true), (show resultA Try.prog [.tmp 8] _ = _ by simp only [resultA, resultsA, envOf, val_set, ↓reduceIte, Nat.reduceEqDiff, Option.map_some, v1, v3, v4, v8, v9, v12, v19, v20] <;> rfl), ?_⟩
                  try dsimp only
                  exact ⟨by first | rfl | (exfalso; omega), E102⟩
  · skip
    refine o_sk rfl ((wanted_of (b := true) rfl rfl rfl (by simp only [val_set, ↓reduceIte, Nat.reduceEqDiff] <;> rfl)).trans rfl) ?_
    refine o_sk rfl ((wanted_of (b := true) rfl rfl rfl (by simp only [val_set, ↓reduceIte, Nat.reduceEqDiff] <;> rfl)).trans rfl) ?_
    refine o_rd (r_pick (t := true) (by simp only [ev, envOf, val_set, ofValue, ofCell, ↓reduceIte, Nat.reduceEqDiff] <;> rfl) (fun _ => (by simp only [ev, envOf, val_set, ofValue, ofCell, ↓reduceIte, Nat.reduceEqDiff] <;> rfl)) (fun h => by cases h)) rfl rfl ?_
    refine o_nil ?_
    refine w_cond (t := true) (by simp only [ev, envOf, val_set, ofValue, ofCell, ↓reduceIte, Nat.reduceEqDiff] <;> rfl) (fun _ => ?_) (fun h => by cases h)
    refine w_seq ?_
    refine w_region ?_
    refine o_rd (r_move (by simp only [ev, envOf, val_set, ofValue, ofCell, ↓reduceIte, Nat.reduceEqDiff] <;> rfl)) rfl rfl ?_
    refine o_rd (r_assign (by simp only [ev, envOf, val_set, ofValue, ofCell, ↓reduceIte, Nat.reduceEqDiff] <;> rfl)) rfl rfl ?_
    refine o_nil ?_
    refine w_ret ⟨.inr rfl, rfl, .bool (true), (show resultA Try.prog [.tmp 8] _ = _ by simp only [resultA, resultsA, envOf, val_set, ↓reduceIte, Nat.reduceEqDiff, Option.map_some] <;> rfl), ?_⟩
    try dsimp only
    exact ⟨by first | rfl | (exfalso; omega), E4⟩
end Go.Proofs.Ytenfjdkeikjhlaa.Vs
