/-
  ValueParts of squintlaw07 answers true.
-/
import Derived.Test.YtenfjdkeikjhlaaPartsP
set_option autoImplicit false
set_option linter.unusedVariables false
set_option linter.unusedSimpArgs false
namespace Go.Proofs.Ytenfjdkeikjhlaa.Vs
open Go.VI Go.Proofs
variable {orc : CallF}
set_option maxRecDepth 100000 in
set_option maxHeartbeats 4000000 in
theorem parts_fin (ho : NoOrcBut [9, 35, 36] orc) {H0 : AH} (W0 : Wf H0) (hs : ∀ H, orc 9 [] H = some (.ret (.bool true), H)) (ka na kb nb : Int) (la lb : List V) (sa sb sp : AV) (ps : List Int) (ha : SA H0 la sa) (hb : SA H0 lb sb) (hP : SIc H0 ps sp) (hpl : ps.length ≤ 17592186044415) : Fin Try.prog orc 7 [.agg [.int .i64 (ka), .int .i64 (na), sa], sp, .agg [.int .i64 (kb), .int .i64 (nb), sb]] H0 (fun r H' => r = .bool true ∧ Ext H0 H') := by
  have E0 := Ext.refl W0
  have hpb := hP.1.bound
  refine fin_of Try.func7 rfl (by rw [Try.ntmps7]; simp) (ho _ rfl _ _) ?_
  rw [Try.ntmps7]
  refine w_seq ?_
  refine w_region ?_
  refine o_nw W0 (a_box (by simp only [ev, envOf, val_set, ofValue, ofCell, ↓reduceIte, Nat.reduceEqDiff] <;> rfl)) rfl rfl rfl (by simp) ?_; intro H1 n1 W1 X1 A1
  have A1 : H1.at H0.n = some (.row [.int .i64 (ka), .int .i64 (na), sa] 24 false none) := A1
  have E1 := E0.trans X1
  have g1 : H0.n ≤ H0.n := E0.n
  refine o_nw W1 (a_box (by simp only [ev, envOf, val_set, ofValue, ofCell, ↓reduceIte, Nat.reduceEqDiff] <;> rfl)) rfl rfl rfl (by simp) ?_; intro H2 n2 W2 X2 A2
  have A2 : H2.at H1.n = some (.row [.int .i64 (kb), .int .i64 (nb), sb] 24 false none) := A2
  have E2 := E1.trans X2
  have g2 : H0.n ≤ H1.n := E1.n
  have A1 := X2.keep _ _ A1
  refine o_rd (r_assign (by simp only [ev, envOf, val_set, ofValue, ofCell, ↓reduceIte, Nat.reduceEqDiff] <;> rfl)) rfl rfl ?_
  refine o_nil ?_
  refine w_seq ?_
  refine w_region ?_
  refine o_cl rfl rfl (by simp only [evs, ev, envOf, val_set, ofValue, ofCell, ↓reduceIte, Nat.reduceEqDiff] <;> rfl) rfl (fin_orc hs W2) rfl rfl ?_; rintro _ H3 ⟨rfl, X3⟩
  have W3 := X3.wf; have E3 := E2.trans X3
  have A1 := X3.keep _ _ A1
  have A2 := X3.keep _ _ A2
  have n3 := X3.n
  refine o_rd (r_assign (by simp only [ev, envOf, val_set, ofValue, ofCell, ↓reduceIte, Nat.reduceEqDiff] <;> rfl)) rfl rfl ?_
  refine o_nil ?_
  refine w_seq ?_
  refine w_seq ?_
  refine w_region ?_
  refine o_rd (r_loadN (cs := [.int .i64 (ka), .int .i64 (na), sa]) Ty.agg24 Ty.csz24 (by simp only [ev, envOf, val_set, ofValue, ofCell, ↓reduceIte, Nat.reduceEqDiff] <;> rfl) (read_mt A1 (Nat.le_of_ble_eq_true rfl))) rfl rfl ?_
  refine o_cl rfl rfl (by simp only [evs, ev, envOf, val_set, ofValue, ofCell, ↓reduceIte, Nat.reduceEqDiff] <;> rfl) rfl (great_fin (ho 10 rfl) W3 ((VA.mk ka na la sa ha).ext E3)) rfl rfl ?_; rintro _ H4 ⟨rfl, X4⟩
  have W4 := X4.wf; have E4 := E3.trans X4
  have A1 := X4.keep _ _ A1
  have A2 := X4.keep _ _ A2
  have n4 := X4.n
  refine o_rd (r_move (by simp only [ev, envOf, val_set, ofValue, ofCell, ↓reduceIte, Nat.reduceEqDiff] <;> rfl)) rfl rfl ?_
  cases hg5 : (gr 65537 0 [(V.mk ka na la, 1)] : Bool)
  · skip
    refine o_rd (r_loadN (cs := [.int .i64 (kb), .int .i64 (nb), sb]) Ty.agg24 Ty.csz24 (by simp only [ev, envOf, val_set, ofValue, ofCell, ↓reduceIte, Nat.reduceEqDiff] <;> rfl) (read_mt A2 (Nat.le_of_ble_eq_true rfl))) rfl ((wanted_of (b := false) rfl rfl rfl (by simp only [val_set, ↓reduceIte, Nat.reduceEqDiff] <;> rfl)).trans rfl) ?_
    refine o_cl rfl rfl (by simp only [evs, ev, envOf, val_set, ofValue, ofCell, ↓reduceIte, Nat.reduceEqDiff] <;> rfl) rfl (great_fin (ho 10 rfl) W4 ((VA.mk kb nb lb sb hb).ext E4)) rfl ((wanted_of (b := false) rfl rfl rfl (by simp only [val_set, ↓reduceIte, Nat.reduceEqDiff] <;> rfl)).trans rfl) ?_; rintro _ H6 ⟨rfl, X6⟩
    have W6 := X6.wf; have E6 := E4.trans X6
    have A1 := X6.keep _ _ A1
    have A2 := X6.keep _ _ A2
    have n6 := X6.n
    refine o_rd (r_pick (t := false) (by simp only [ev, envOf, val_set, ofValue, ofCell, ↓reduceIte, Nat.reduceEqDiff] <;> rfl) (fun h => by cases h) (fun _ => (by simp only [ev, envOf, val_set, ofValue, ofCell, ↓reduceIte, Nat.reduceEqDiff] <;> rfl))) rfl rfl ?_
    refine o_nil ?_
    refine w_cond (by simp only [ev, envOf, val_set, ofValue, ofCell, ↓reduceIte, Nat.reduceEqDiff] <;> rfl) (fun hc7 => ?_) (fun hc7 => ?_)
    · skip
      refine w_seq ?_
      refine w_region ?_
      refine o_rd (r_move (by simp only [ev, envOf, val_set, ofValue, ofCell, ↓reduceIte, Nat.reduceEqDiff] <;> rfl)) rfl rfl ?_
      refine o_rd (r_assign (by simp only [ev, envOf, val_set, ofValue, ofCell, ↓reduceIte, Nat.reduceEqDiff] <;> rfl)) rfl rfl ?_
      refine o_nil ?_
      refine w_ret ⟨.inr rfl, rfl, .bool (true), (show resultA Try.prog [.tmp 6] _ = _ by simp only [resultA, resultsA, envOf, val_set, ↓reduceIte, Nat.reduceEqDiff, Option.map_some] <;> rfl), ?_⟩
      try dsimp only
      exact ⟨by first | rfl | (exfalso; omega), E6⟩
    · skip
      refine w_skip ?_
      refine w_seq ?_
      refine w_region ?_
      have hga : gr 65537 0 [(V.mk ka na la, 1)] = false := by first | assumption | skip
      have hgb : gr 65537 0 [(V.mk kb nb lb, 1)] = false := by first | assumption | skip
      have hca := great_cnt hga; have hcb := great_cnt hgb
      obtain ⟨k1, n1, l1, hz1⟩ : ∃ k n l, pz (partV (V.mk ka na la) ps) = .mk k n l := by cases hq : pz (partV (V.mk ka na la) ps) with | mk k n l => exact ⟨k, n, l, rfl⟩
      obtain ⟨k2, n2, l2, hz2⟩ : ∃ k n l, pz (putV (V.mk ka na la) ps (V.mk kb nb lb)) = .mk k n l := by cases hq : pz (putV (V.mk ka na la) ps (V.mk kb nb lb)) with | mk k n l => exact ⟨k, n, l, rfl⟩
      have hc1 := pz_part_cnt hz1; have hc2 := pz_put_cnt hz2
      refine o_rd (r_build (cs := [.nils, .nils]) Ty.zero41 Ty.pl41 (by simp only [evParts, ev, envOf, val_set, ofValue, ofCell, ↓reduceIte, Nat.reduceEqDiff] <;> rfl) rfl) rfl rfl ?_
      refine o_nw W6 (a_box (by simp only [ev, envOf, val_set, ofValue, ofCell, ↓reduceIte, Nat.reduceEqDiff] <;> rfl)) rfl rfl rfl (by simp) ?_; intro H8 n8 W8 X8 A8
      have A8 : H8.at H6.n = some (.row [.nils, .nils] 41 false none) := A8
      have E8 := E6.trans X8
      have g8 : H0.n ≤ H6.n := E6.n
      have A1 := X8.keep _ _ A1
      have A2 := X8.keep _ _ A2
      refine o_rd (r_assign (by simp only [ev, envOf, val_set, ofValue, ofCell, ↓reduceIte, Nat.reduceEqDiff] <;> rfl)) rfl rfl ?_
      refine o_nil ?_
      refine w_seq ?_
      refine w_region ?_
      refine o_rd (r_loadN (cs := [.int .i64 (ka), .int .i64 (na), sa]) Ty.agg24 Ty.csz24 (by simp only [ev, envOf, val_set, ofValue, ofCell, ↓reduceIte, Nat.reduceEqDiff] <;> rfl) (read_mt A1 (Nat.le_of_ble_eq_true rfl))) rfl rfl ?_
      refine o_cl rfl rfl (by simp only [evs, ev, envOf, val_set, ofValue, ofCell, ↓reduceIte, Nat.reduceEqDiff] <;> rfl) rfl (ownL_at ho W8 (k := ka) (n := na) (l := la) (by omega) (VA.mk ka na la _ (ha.ext E8))) rfl rfl ?_; rintro _ H9 ⟨sx, rfl, hx, X9⟩
      have W9 := X9.wf; have E9 := E8.trans X9
      have A1 := X9.keep _ _ A1
      have A2 := X9.keep _ _ A2
      have A8 := X9.keep _ _ A8
      have n9 := X9.n
      have ohx := SA.one' (pa_sa hx)
      refine o_nw W9 (a_alloc Ty.zero24) rfl rfl rfl (by simp) ?_; intro H10 n10 W10 X10 A10
      have A10 : H10.at H9.n = some (.row [.int .i64 (0), .int .i64 (0), .nils] 24 false none) := A10
      have E10 := E9.trans X10
      have g10 : H0.n ≤ H9.n := E9.n
      have A1 := X10.keep _ _ A1
      have A2 := X10.keep _ _ A2
      have A8 := X10.keep _ _ A8
      refine o_st W10 (by simp only [ev, envOf, val_set, ofValue, ofCell, ↓reduceIte, Nat.reduceEqDiff] <;> rfl) (by simp only [ev, envOf, val_set, ofValue, ofCell, ↓reduceIte, Nat.reduceEqDiff] <;> rfl) A10 Ty.csz24 rfl (Nat.le_of_ble_eq_true rfl) (by first | rfl | exact ones3 ohx | exact ones3 ohy | exact ones3 oh_a | exact ones3 oh_b | exact ones3 oh_c | exact ones3 oh_d | exact ones3 oh_u | exact ones3 oh_v) rfl rfl ?_; intro H11 n11 W11 A11 K11
      have A11 : H11.at H9.n = some (.row [.int .i64 (ka), .int .i64 (na), sx] 24 false none) := A11
      have E11 := Ext.put W0 E10 (by have := E10.n; omega) K11 n11 W11
      have A1 := K11.own A1 (by omega)
      have A2 := K11.own A2 (by omega)
      have A8 := K11.own A8 (by omega)
      refine o_nil ?_
      refine w_seq ?_
      refine w_region ?_
      refine o_rd (r_loadN (cs := [.int .i64 (kb), .int .i64 (nb), sb]) Ty.agg24 Ty.csz24 (by simp only [ev, envOf, val_set, ofValue, ofCell, ↓reduceIte, Nat.reduceEqDiff] <;> rfl) (read_mt A2 (Nat.le_of_ble_eq_true rfl))) rfl rfl ?_
      refine o_cl rfl rfl (by simp only [evs, ev, envOf, val_set, ofValue, ofCell, ↓reduceIte, Nat.reduceEqDiff] <;> rfl) rfl (ownL_at ho W11 (k := kb) (n := nb) (l := lb) (by omega) (VA.mk kb nb lb _ (hb.ext E11))) rfl rfl ?_; rintro _ H12 ⟨sy, rfl, hy, X12⟩
      have W12 := X12.wf; have E12 := E11.trans X12
      have A1 := X12.keep _ _ A1
      have A2 := X12.keep _ _ A2
      have A8 := X12.keep _ _ A8
      have A11 := X12.keep _ _ A11
      have n12 := X12.n
      have ohy := SA.one' (pa_sa hy)
      refine o_nw W12 (a_alloc Ty.zero24) rfl rfl rfl (by simp) ?_; intro H13 n13 W13 X13 A13
      have A13 : H13.at H12.n = some (.row [.int .i64 (0), .int .i64 (0), .nils] 24 false none) := A13
      have E13 := E12.trans X13
      have g13 : H0.n ≤ H12.n := E12.n
      have A1 := X13.keep _ _ A1
      have A2 := X13.keep _ _ A2
      have A8 := X13.keep _ _ A8
      have A11 := X13.keep _ _ A11
      refine o_st W13 (by simp only [ev, envOf, val_set, ofValue, ofCell, ↓reduceIte, Nat.reduceEqDiff] <;> rfl) (by simp only [ev, envOf, val_set, ofValue, ofCell, ↓reduceIte, Nat.reduceEqDiff] <;> rfl) A13 Ty.csz24 rfl (Nat.le_of_ble_eq_true rfl) (by first | rfl | exact ones3 ohx | exact ones3 ohy | exact ones3 oh_a | exact ones3 oh_b | exact ones3 oh_c | exact ones3 oh_d | exact ones3 oh_u | exact ones3 oh_v) rfl rfl ?_; intro H14 n14 W14 A14 K14
      have A14 : H14.at H12.n = some (.row [.int .i64 (kb), .int .i64 (nb), sy] 24 false none) := A14
      have E14 := Ext.put W0 E13 (by have := E13.n; omega) K14 n14 W14
      have A1 := K14.own A1 (by omega)
      have A2 := K14.own A2 (by omega)
      have A8 := K14.own A8 (by omega)
      have A11 := K14.own A11 (by omega)
      refine o_nil ?_
      refine w_seq ?_
      refine w_region ?_
      refine o_nw W14 (a_build0 Try.underlying28 Ty.csz3 Ty.zero3 rfl) rfl rfl rfl (by simp) ?_; intro H15 n15 W15 X15 A15
      have E15 := E14.trans X15
      have Ow0 : Own H15 3 1 (freshSl (H14.n) 0 0) 0 [] (H14.n) none := own_fresh (n := 0) (e := 1) A15 rfl
      have Nw0 : New H14 (H14.n) none := ⟨Nat.le_refl _, fun f h => by cases h⟩
      have A1 := X15.keep _ _ A1
      have A2 := X15.keep _ _ A2
      have A8 := X15.keep _ _ A8
      have A11 := X15.keep _ _ A11
      have A14 := X15.keep _ _ A14
      refine o_rd (r_move (by simp only [ev, envOf, val_set, ofValue, ofCell, ↓reduceIte, Nat.reduceEqDiff] <;> rfl)) rfl rfl ?_
      refine o_apR W15 Try.underlying28 Try.underlying28 rfl Ty.csz3 Ty.byt3 Ty.zero3 rfl (by simp only [ev, envOf, val_set, ofValue, ofCell, ↓reduceIte, Nat.reduceEqDiff] <;> rfl) (by simp only [ev, envOf, val_set, ofValue, ofCell, ↓reduceIte, Nat.reduceEqDiff] <;> rfl) Ow0 (SI.srcC (hP.1.ext E15)) (by simp) (ones_ints _) (room_big (by omega) (by omega)) rfl rfl ?_; intro s16 H16 b16 f16 O16 W16 l16 u16 p16 q16 K16
      have EW16 := Ext.keeps W14 X15 Nw0 K16 l16 W16
      have N16 := Nw0.step (X15).n p16 q16
      have N161 := N16.1
      have E16 := E14.trans EW16
      have A1 := K16.at A1 (by omega) rfl
      have A2 := K16.at A2 (by omega) rfl
      have A8 := K16.at A8 (by omega) rfl
      have A11 := K16.at A11 (by omega) rfl
      have A14 := K16.at A14 (by omega) rfl
      refine o_nw W16 (a_build1 Try.underlying28 Ty.csz3 Ty.zero3 rfl (by simp only [ev, envOf, val_set, ofValue, ofCell, ↓reduceIte, Nat.reduceEqDiff] <;> rfl) rfl (by decide)) rfl rfl rfl (by simp) ?_; intro H17 n17 W17 X17 A17
      have E17 := E16.trans X17; have EW17 := (EW16).trans X17
      have A1 := X17.keep _ _ A1
      have A2 := X17.keep _ _ A2
      have A8 := X17.keep _ _ A8
      have A11 := X17.keep _ _ A11
      have A14 := X17.keep _ _ A14
      have Oc17 := Own.ext O16 X17
      refine o_apR W17 Try.underlying28 Try.underlying28 rfl Ty.csz3 Ty.byt3 Ty.zero3 rfl (by simp only [ev, envOf, val_set, ofValue, ofCell, ↓reduceIte, Nat.reduceEqDiff] <;> rfl) (by simp only [ev, envOf, val_set, ofValue, ofCell, ↓reduceIte, Nat.reduceEqDiff] <;> rfl) Oc17 (src_fresh (n := 1) A17 rfl) rfl rfl (room_big (by omega) (by omega)) rfl rfl ?_; intro s18 H18 b18 f18 O18 W18 l18 u18 p18 q18 K18
      have EW18 := Ext.keeps W14 EW17 N16 K18 l18 W18
      have N18 := N16.step (EW17).n p18 q18
      have N181 := N18.1
      have E18 := E14.trans EW18
      have A1 := K18.at A1 (by omega) rfl
      have A2 := K18.at A2 (by omega) rfl
      have A8 := K18.at A8 (by omega) rfl
      have A11 := K18.at A11 (by omega) rfl
      have A14 := K18.at A14 (by omega) rfl
      obtain ⟨ooy, cpy, rfl, Oway⟩ := own_open O18
      replace Oway := Own.cong Oway (cs' := ps.map (AV.int .i64) ++ [.int .i64 (-77)]) (by simp [AV.cells])
      have Oway : Own H18 3 1 (.sl (.mt b18) ooy (ps.length + 1) cpy) (ps.length + 1) (ps.map (AV.int .i64) ++ [.int .i64 (-77)]) b18 f18 := by have h := Oway; simp only [Nat.zero_add] at h; exact h
      have hcy := (own_read Oway).2.1; have hbway := Oway.lt W18
      refine o_rd (r_assign (by simp only [ev, envOf, val_set, ofValue, ofCell, ↓reduceIte, Nat.reduceEqDiff] <;> rfl)) rfl rfl ?_
      refine o_nil ?_
      refine w_seq ?_
      refine w_region ?_
      refine o_rd (r_move (by simp only [ev, envOf, val_set, ofValue, ofCell, ↓reduceIte, Nat.reduceEqDiff] <;> rfl)) rfl rfl ?_
      refine o_rd (r_move (by simp only [ev, envOf, val_set, ofValue, ofCell, ↓reduceIte, Nat.reduceEqDiff] <;> rfl)) rfl rfl ?_
      refine o_rd (r_len (n := ps.length) Try.underlying28 (by simp only [ev, envOf, val_set, ofValue, ofCell, ↓reduceIte, Nat.reduceEqDiff] <;> rfl) hP.1.lenOf) rfl rfl ?_
      refine o_rd (r_sliceTo (j := ps.length) Try.underlying28 Ty.csz3 (by simp only [ev, envOf, val_set, ofValue, ofCell, ↓reduceIte, Nat.reduceEqDiff] <;> rfl) (by simp only [ev, envOf, val_set, ofValue, ofCell, ↓reduceIte, Nat.reduceEqDiff] <;> rfl) (by omega) (Own.ext Oway (Ext.refl W18)).cutOk) rfl rfl ?_
      refine o_rd (r_assign (by simp only [ev, envOf, val_set, ofValue, ofCell, ↓reduceIte, Nat.reduceEqDiff] <;> rfl)) rfl rfl ?_
      refine o_nil ?_
      refine w_seq ?_
      refine w_region ?_
      refine o_rd (r_loadN (cs := [.int .i64 (ka), .int .i64 (na), sx]) Ty.agg24 Ty.csz24 (by simp only [ev, envOf, val_set, ofValue, ofCell, ↓reduceIte, Nat.reduceEqDiff] <;> rfl) (read_mt A11 (Nat.le_of_ble_eq_true rfl))) rfl rfl ?_
      refine o_rd (r_move (by simp only [ev, envOf, val_set, ofValue, ofCell, ↓reduceIte, Nat.reduceEqDiff] <;> rfl)) rfl rfl ?_
      refine o_cl rfl rfl (by simp only [evs, ev, envOf, val_set, ofValue, ofCell, ↓reduceIte, Nat.reduceEqDiff] <;> rfl) rfl (part_z ho W18 (pa_sa (PA.ext hx ((Ext.put W9 (((Ext.put W9 ((Ext.refl W9).trans X10) (by omega) K11 n11 W11).trans X12).trans X13) (by omega) K14 n14 W14).trans EW18))) (SI.first (Own.ext Oway (Ext.refl W18)) hpb) (by omega) hz1) rfl rfl ?_; rintro _ H19 ⟨s_a, b_a, rfl, h_a, d_a, r_a, X19⟩
      have W19 := X19.wf; have E19 := E18.trans X19
      have A1 := X19.keep _ _ A1
      have A2 := X19.keep _ _ A2
      have A8 := X19.keep _ _ A8
      have A11 := X19.keep _ _ A11
      have A14 := X19.keep _ _ A14
      have n19 := X19.n
      have oh_a := SA.one' h_a.sa
      refine o_rd (r_move (by simp only [ev, envOf, val_set, ofValue, ofCell, ↓reduceIte, Nat.reduceEqDiff] <;> rfl)) rfl rfl ?_
      refine o_rd (r_extract (by simp only [ev, envOf, val_set, ofValue, ofCell, ↓reduceIte, Nat.reduceEqDiff] <;> rfl) rfl) rfl rfl ?_
      refine o_rd (r_extract (by simp only [ev, envOf, val_set, ofValue, ofCell, ↓reduceIte, Nat.reduceEqDiff] <;> rfl) rfl) rfl rfl ?_
      refine o_nw W19 (a_alloc Ty.zero24) rfl rfl rfl (by simp) ?_; intro H20 n20 W20 X20 A20
      have A20 : H20.at H19.n = some (.row [.int .i64 (0), .int .i64 (0), .nils] 24 false none) := A20
      have E20 := E19.trans X20
      have g20 : H0.n ≤ H19.n := E19.n
      have A1 := X20.keep _ _ A1
      have A2 := X20.keep _ _ A2
      have A8 := X20.keep _ _ A8
      have A11 := X20.keep _ _ A11
      have A14 := X20.keep _ _ A14
      refine o_st W20 (by simp only [ev, envOf, val_set, ofValue, ofCell, ↓reduceIte, Nat.reduceEqDiff] <;> rfl) (by simp only [ev, envOf, val_set, ofValue, ofCell, ↓reduceIte, Nat.reduceEqDiff] <;> rfl) A20 Ty.csz24 rfl (Nat.le_of_ble_eq_true rfl) (by first | rfl | exact ones3 ohx | exact ones3 ohy | exact ones3 oh_a | exact ones3 oh_b | exact ones3 oh_c | exact ones3 oh_d | exact ones3 oh_u | exact ones3 oh_v) rfl rfl ?_; intro H21 n21 W21 A21 K21
      have A21 : H21.at H19.n = some (.row [.int .i64 (k1), .int .i64 (n1), s_a] 24 false none) := A21
      have E21 := Ext.put W0 E20 (by have := E20.n; omega) K21 n21 W21
      have A1 := K21.own A1 (by omega)
      have A2 := K21.own A2 (by omega)
      have A8 := K21.own A8 (by omega)
      have A11 := K21.own A11 (by omega)
      have A14 := K21.own A14 (by omega)
      refine o_rd (r_assign (by simp only [ev, envOf, val_set, ofValue, ofCell, ↓reduceIte, Nat.reduceEqDiff] <;> rfl)) rfl rfl ?_
      refine o_nil ?_
      refine w_seq ?_
      refine w_region ?_
      refine o_rd (r_loadN (cs := [.int .i64 (ka), .int .i64 (na), sx]) Ty.agg24 Ty.csz24 (by simp only [ev, envOf, val_set, ofValue, ofCell, ↓reduceIte, Nat.reduceEqDiff] <;> rfl) (read_mt A11 (Nat.le_of_ble_eq_true rfl))) rfl rfl ?_
      refine o_rd (r_move (by simp only [ev, envOf, val_set, ofValue, ofCell, ↓reduceIte, Nat.reduceEqDiff] <;> rfl)) rfl rfl ?_
      refine o_rd (r_loadN (cs := [.int .i64 (kb), .int .i64 (nb), sy]) Ty.agg24 Ty.csz24 (by simp only [ev, envOf, val_set, ofValue, ofCell, ↓reduceIte, Nat.reduceEqDiff] <;> rfl) (read_mt A14 (Nat.le_of_ble_eq_true rfl))) rfl rfl ?_
      refine o_cl rfl rfl (by simp only [evs, ev, envOf, val_set, ofValue, ofCell, ↓reduceIte, Nat.reduceEqDiff] <;> rfl) rfl (with_z ho W21 (pa_sa (PA.ext hx (Ext.put W9 ((((Ext.put W9 (((Ext.put W9 ((Ext.refl W9).trans X10) (by omega) K11 n11 W11).trans X12).trans X13) (by omega) K14 n14 W14).trans EW18).trans X19).trans X20) (by omega) K21 n21 W21))) (pa_sa (PA.ext hy (Ext.put W12 ((((Ext.put W12 ((Ext.refl W12).trans X13) (by omega) K14 n14 W14).trans EW18).trans X19).trans X20) (by omega) K21 n21 W21))) (SI.first (Own.ext Oway (Ext.put W18 (((Ext.refl W18).trans X19).trans X20) (by omega) K21 n21 W21)) hpb) (by omega) (by omega) hz2) rfl rfl ?_; rintro _ H22 ⟨s_b, b_b, rfl, h_b, d_b, r_b, X22⟩
      have W22 := X22.wf; have E22 := E21.trans X22
      have A1 := X22.keep _ _ A1
      have A2 := X22.keep _ _ A2
      have A8 := X22.keep _ _ A8
      have A11 := X22.keep _ _ A11
      have A14 := X22.keep _ _ A14
      have A21 := X22.keep _ _ A21
      have n22 := X22.n
      have oh_b := SA.one' h_b.sa
      refine o_rd (r_move (by simp only [ev, envOf, val_set, ofValue, ofCell, ↓reduceIte, Nat.reduceEqDiff] <;> rfl)) rfl rfl ?_
      refine o_rd (r_extract (by simp only [ev, envOf, val_set, ofValue, ofCell, ↓reduceIte, Nat.reduceEqDiff] <;> rfl) rfl) rfl rfl ?_
      refine o_rd (r_extract (by simp only [ev, envOf, val_set, ofValue, ofCell, ↓reduceIte, Nat.reduceEqDiff] <;> rfl) rfl) rfl rfl ?_
      refine o_nw W22 (a_alloc Ty.zero24) rfl rfl rfl (by simp) ?_; intro H23 n23 W23 X23 A23
      have A23 : H23.at H22.n = some (.row [.int .i64 (0), .int .i64 (0), .nils] 24 false none) := A23
      have E23 := E22.trans X23
      have g23 : H0.n ≤ H22.n := E22.n
      have A1 := X23.keep _ _ A1
      have A2 := X23.keep _ _ A2
      have A8 := X23.keep _ _ A8
      have A11 := X23.keep _ _ A11
      have A14 := X23.keep _ _ A14
      have A21 := X23.keep _ _ A21
      refine o_st W23 (by simp only [ev, envOf, val_set, ofValue, ofCell, ↓reduceIte, Nat.reduceEqDiff] <;> rfl) (by simp only [ev, envOf, val_set, ofValue, ofCell, ↓reduceIte, Nat.reduceEqDiff] <;> rfl) A23 Ty.csz24 rfl (Nat.le_of_ble_eq_true rfl) (by first | rfl | exact ones3 ohx | exact ones3 ohy | exact ones3 oh_a | exact ones3 oh_b | exact ones3 oh_c | exact ones3 oh_d | exact ones3 oh_u | exact ones3 oh_v) rfl rfl ?_; intro H24 n24 W24 A24 K24
      have A24 : H24.at H22.n = some (.row [.int .i64 (k2), .int .i64 (n2), s_b] 24 false none) := A24
      have E24 := Ext.put W0 E23 (by have := E23.n; omega) K24 n24 W24
      have A1 := K24.own A1 (by omega)
      have A2 := K24.own A2 (by omega)
      have A8 := K24.own A8 (by omega)
      have A11 := K24.own A11 (by omega)
      have A14 := K24.own A14 (by omega)
      have A21 := K24.own A21 (by omega)
      refine o_rd (r_assign (by simp only [ev, envOf, val_set, ofValue, ofCell, ↓reduceIte, Nat.reduceEqDiff] <;> rfl)) rfl rfl ?_
      refine o_nil ?_
      refine w_seq ?_
      refine w_region ?_
      refine o_rd (r_loadN (cs := [.int .i64 (ka), .int .i64 (na), sx]) Ty.agg24 Ty.csz24 (by simp only [ev, envOf, val_set, ofValue, ofCell, ↓reduceIte, Nat.reduceEqDiff] <;> rfl) (read_mt A11 (Nat.le_of_ble_eq_true rfl))) rfl rfl ?_
      refine o_rd (r_move (by simp only [ev, envOf, val_set, ofValue, ofCell, ↓reduceIte, Nat.reduceEqDiff] <;> rfl)) rfl rfl ?_
      refine o_cl rfl rfl (by simp only [evs, ev, envOf, val_set, ofValue, ofCell, ↓reduceIte, Nat.reduceEqDiff] <;> rfl) rfl (part_z ho W24 (pa_sa (PA.ext hx (Ext.put W9 (((Ext.put W9 ((((Ext.put W9 (((Ext.put W9 ((Ext.refl W9).trans X10) (by omega) K11 n11 W11).trans X12).trans X13) (by omega) K14 n14 W14).trans EW18).trans X19).trans X20) (by omega) K21 n21 W21).trans X22).trans X23) (by omega) K24 n24 W24))) (SI.first (Own.ext Oway (Ext.put W18 (((Ext.put W18 (((Ext.refl W18).trans X19).trans X20) (by omega) K21 n21 W21).trans X22).trans X23) (by omega) K24 n24 W24)) hpb) (by omega) hz1) rfl rfl ?_; rintro _ H25 ⟨s_c, b_c, rfl, h_c, d_c, r_c, X25⟩
      have W25 := X25.wf; have E25 := E24.trans X25
      have A1 := X25.keep _ _ A1
      have A2 := X25.keep _ _ A2
      have A8 := X25.keep _ _ A8
      have A11 := X25.keep _ _ A11
      have A14 := X25.keep _ _ A14
      have A21 := X25.keep _ _ A21
      have A24 := X25.keep _ _ A24
      have n25 := X25.n
      have oh_c := SA.one' h_c.sa
      refine o_rd (r_move (by simp only [ev, envOf, val_set, ofValue, ofCell, ↓reduceIte, Nat.reduceEqDiff] <;> rfl)) rfl rfl ?_
      refine o_rd (r_extract (by simp only [ev, envOf, val_set, ofValue, ofCell, ↓reduceIte, Nat.reduceEqDiff] <;> rfl) rfl) rfl rfl ?_
      refine o_rd (r_extract (by simp only [ev, envOf, val_set, ofValue, ofCell, ↓reduceIte, Nat.reduceEqDiff] <;> rfl) rfl) rfl rfl ?_
      refine o_nw W25 (a_alloc Ty.zero24) rfl rfl rfl (by simp) ?_; intro H26 n26 W26 X26 A26
      have A26 : H26.at H25.n = some (.row [.int .i64 (0), .int .i64 (0), .nils] 24 false none) := A26
      have E26 := E25.trans X26
      have g26 : H0.n ≤ H25.n := E25.n
      have A1 := X26.keep _ _ A1
      have A2 := X26.keep _ _ A2
      have A8 := X26.keep _ _ A8
      have A11 := X26.keep _ _ A11
      have A14 := X26.keep _ _ A14
      have A21 := X26.keep _ _ A21
      have A24 := X26.keep _ _ A24
      refine o_st W26 (by simp only [ev, envOf, val_set, ofValue, ofCell, ↓reduceIte, Nat.reduceEqDiff] <;> rfl) (by simp only [ev, envOf, val_set, ofValue, ofCell, ↓reduceIte, Nat.reduceEqDiff] <;> rfl) A26 Ty.csz24 rfl (Nat.le_of_ble_eq_true rfl) (by first | rfl | exact ones3 ohx | exact ones3 ohy | exact ones3 oh_a | exact ones3 oh_b | exact ones3 oh_c | exact ones3 oh_d | exact ones3 oh_u | exact ones3 oh_v) rfl rfl ?_; intro H27 n27 W27 A27 K27
      have A27 : H27.at H25.n = some (.row [.int .i64 (k1), .int .i64 (n1), s_c] 24 false none) := A27
      have E27 := Ext.put W0 E26 (by have := E26.n; omega) K27 n27 W27
      have A1 := K27.own A1 (by omega)
      have A2 := K27.own A2 (by omega)
      have A8 := K27.own A8 (by omega)
      have A11 := K27.own A11 (by omega)
      have A14 := K27.own A14 (by omega)
      have A21 := K27.own A21 (by omega)
      have A24 := K27.own A24 (by omega)
      refine o_rd (r_assign (by simp only [ev, envOf, val_set, ofValue, ofCell, ↓reduceIte, Nat.reduceEqDiff] <;> rfl)) rfl rfl ?_
      refine o_nil ?_
      refine w_seq ?_
      refine w_region ?_
      refine o_rd (r_loadN (cs := [.int .i64 (ka), .int .i64 (na), sx]) Ty.agg24 Ty.csz24 (by simp only [ev, envOf, val_set, ofValue, ofCell, ↓reduceIte, Nat.reduceEqDiff] <;> rfl) (read_mt A11 (Nat.le_of_ble_eq_true rfl))) rfl rfl ?_
      refine o_rd (r_move (by simp only [ev, envOf, val_set, ofValue, ofCell, ↓reduceIte, Nat.reduceEqDiff] <;> rfl)) rfl rfl ?_
      refine o_rd (r_loadN (cs := [.int .i64 (kb), .int .i64 (nb), sy]) Ty.agg24 Ty.csz24 (by simp only [ev, envOf, val_set, ofValue, ofCell, ↓reduceIte, Nat.reduceEqDiff] <;> rfl) (read_mt A14 (Nat.le_of_ble_eq_true rfl))) rfl rfl ?_
      refine o_cl rfl rfl (by simp only [evs, ev, envOf, val_set, ofValue, ofCell, ↓reduceIte, Nat.reduceEqDiff] <;> rfl) rfl (with_z ho W27 (pa_sa (PA.ext hx (Ext.put W9 (((Ext.put W9 (((Ext.put W9 ((((Ext.put W9 (((Ext.put W9 ((Ext.refl W9).trans X10) (by omega) K11 n11 W11).trans X12).trans X13) (by omega) K14 n14 W14).trans EW18).trans X19).trans X20) (by omega) K21 n21 W21).trans X22).trans X23) (by omega) K24 n24 W24).trans X25).trans X26) (by omega) K27 n27 W27))) (pa_sa (PA.ext hy (Ext.put W12 (((Ext.put W12 (((Ext.put W12 ((((Ext.put W12 ((Ext.refl W12).trans X13) (by omega) K14 n14 W14).trans EW18).trans X19).trans X20) (by omega) K21 n21 W21).trans X22).trans X23) (by omega) K24 n24 W24).trans X25).trans X26) (by omega) K27 n27 W27))) (SI.first (Own.ext Oway (Ext.put W18 (((Ext.put W18 (((Ext.put W18 (((Ext.refl W18).trans X19).trans X20) (by omega) K21 n21 W21).trans X22).trans X23) (by omega) K24 n24 W24).trans X25).trans X26) (by omega) K27 n27 W27)) hpb) (by omega) (by omega) hz2) rfl rfl ?_; rintro _ H28 ⟨s_d, b_d, rfl, h_d, d_d, r_d, X28⟩
      have W28 := X28.wf; have E28 := E27.trans X28
      have A1 := X28.keep _ _ A1
      have A2 := X28.keep _ _ A2
      have A8 := X28.keep _ _ A8
      have A11 := X28.keep _ _ A11
      have A14 := X28.keep _ _ A14
      have A21 := X28.keep _ _ A21
      have A24 := X28.keep _ _ A24
      have A27 := X28.keep _ _ A27
      have n28 := X28.n
      have oh_d := SA.one' h_d.sa
      refine o_rd (r_move (by simp only [ev, envOf, val_set, ofValue, ofCell, ↓reduceIte, Nat.reduceEqDiff] <;> rfl)) rfl rfl ?_
      refine o_rd (r_extract (by simp only [ev, envOf, val_set, ofValue, ofCell, ↓reduceIte, Nat.reduceEqDiff] <;> rfl) rfl) rfl rfl ?_
      refine o_rd (r_extract (by simp only [ev, envOf, val_set, ofValue, ofCell, ↓reduceIte, Nat.reduceEqDiff] <;> rfl) rfl) rfl rfl ?_
      refine o_nw W28 (a_alloc Ty.zero24) rfl rfl rfl (by simp) ?_; intro H29 n29 W29 X29 A29
      have A29 : H29.at H28.n = some (.row [.int .i64 (0), .int .i64 (0), .nils] 24 false none) := A29
      have E29 := E28.trans X29
      have g29 : H0.n ≤ H28.n := E28.n
      have A1 := X29.keep _ _ A1
      have A2 := X29.keep _ _ A2
      have A8 := X29.keep _ _ A8
      have A11 := X29.keep _ _ A11
      have A14 := X29.keep _ _ A14
      have A21 := X29.keep _ _ A21
      have A24 := X29.keep _ _ A24
      have A27 := X29.keep _ _ A27
      refine o_st W29 (by simp only [ev, envOf, val_set, ofValue, ofCell, ↓reduceIte, Nat.reduceEqDiff] <;> rfl) (by simp only [ev, envOf, val_set, ofValue, ofCell, ↓reduceIte, Nat.reduceEqDiff] <;> rfl) A29 Ty.csz24 rfl (Nat.le_of_ble_eq_true rfl) (by first | rfl | exact ones3 ohx | exact ones3 ohy | exact ones3 oh_a | exact ones3 oh_b | exact ones3 oh_c | exact ones3 oh_d | exact ones3 oh_u | exact ones3 oh_v) rfl rfl ?_; intro H30 n30 W30 A30 K30
      have A30 : H30.at H28.n = some (.row [.int .i64 (k2), .int .i64 (n2), s_d] 24 false none) := A30
      have E30 := Ext.put W0 E29 (by have := E29.n; omega) K30 n30 W30
      have A1 := K30.own A1 (by omega)
      have A2 := K30.own A2 (by omega)
      have A8 := K30.own A8 (by omega)
      have A11 := K30.own A11 (by omega)
      have A14 := K30.own A14 (by omega)
      have A21 := K30.own A21 (by omega)
      have A24 := K30.own A24 (by omega)
      have A27 := K30.own A27 (by omega)
      refine o_rd (r_assign (by simp only [ev, envOf, val_set, ofValue, ofCell, ↓reduceIte, Nat.reduceEqDiff] <;> rfl)) rfl rfl ?_
      refine o_nil ?_
      refine w_seq ?_
      refine w_region ?_
      refine o_rd (r_loadN (cs := [.int .i64 (ka), .int .i64 (na), sa]) Ty.agg24 Ty.csz24 (by simp only [ev, envOf, val_set, ofValue, ofCell, ↓reduceIte, Nat.reduceEqDiff] <;> rfl) (read_mt A1 (Nat.le_of_ble_eq_true rfl))) rfl rfl ?_
      refine o_rd (r_move (by simp only [ev, envOf, val_set, ofValue, ofCell, ↓reduceIte, Nat.reduceEqDiff] <;> rfl)) rfl rfl ?_
      refine o_cl rfl rfl (by simp only [evs, ev, envOf, val_set, ofValue, ofCell, ↓reduceIte, Nat.reduceEqDiff] <;> rfl) rfl (partR_z ho W30 (ha.ext E30) (hP.ext E30) (by omega) hz1) rfl rfl ?_; rintro _ H31 ⟨s_u, rfl, h_u, X31⟩
      have W31 := X31.wf; have E31 := E30.trans X31
      have A1 := X31.keep _ _ A1
      have A2 := X31.keep _ _ A2
      have A8 := X31.keep _ _ A8
      have A11 := X31.keep _ _ A11
      have A14 := X31.keep _ _ A14
      have A21 := X31.keep _ _ A21
      have A24 := X31.keep _ _ A24
      have A27 := X31.keep _ _ A27
      have A30 := X31.keep _ _ A30
      have n31 := X31.n
      have oh_u := FS.one h_u
      refine o_rd (r_move (by simp only [ev, envOf, val_set, ofValue, ofCell, ↓reduceIte, Nat.reduceEqDiff] <;> rfl)) rfl rfl ?_
      refine o_rd (r_extract (by simp only [ev, envOf, val_set, ofValue, ofCell, ↓reduceIte, Nat.reduceEqDiff] <;> rfl) rfl) rfl rfl ?_
      refine o_rd (r_extract (by simp only [ev, envOf, val_set, ofValue, ofCell, ↓reduceIte, Nat.reduceEqDiff] <;> rfl) rfl) rfl rfl ?_
      refine o_nw W31 (a_alloc Ty.zero24) rfl rfl rfl (by simp) ?_; intro H32 n32 W32 X32 A32
      have A32 : H32.at H31.n = some (.row [.int .i64 (0), .int .i64 (0), .nils] 24 false none) := A32
      have E32 := E31.trans X32
      have g32 : H0.n ≤ H31.n := E31.n
      have A1 := X32.keep _ _ A1
      have A2 := X32.keep _ _ A2
      have A8 := X32.keep _ _ A8
      have A11 := X32.keep _ _ A11
      have A14 := X32.keep _ _ A14
      have A21 := X32.keep _ _ A21
      have A24 := X32.keep _ _ A24
      have A27 := X32.keep _ _ A27
      have A30 := X32.keep _ _ A30
      refine o_st W32 (by simp only [ev, envOf, val_set, ofValue, ofCell, ↓reduceIte, Nat.reduceEqDiff] <;> rfl) (by simp only [ev, envOf, val_set, ofValue, ofCell, ↓reduceIte, Nat.reduceEqDiff] <;> rfl) A32 Ty.csz24 rfl (Nat.le_of_ble_eq_true rfl) (by first | rfl | exact ones3 ohx | exact ones3 ohy | exact ones3 oh_a | exact ones3 oh_b | exact ones3 oh_c | exact ones3 oh_d | exact ones3 oh_u | exact ones3 oh_v) rfl rfl ?_; intro H33 n33 W33 A33 K33
      have A33 : H33.at H31.n = some (.row [.int .i64 (k1), .int .i64 (n1), s_u] 24 false none) := A33
      have E33 := Ext.put W0 E32 (by have := E32.n; omega) K33 n33 W33
      have A1 := K33.own A1 (by omega)
      have A2 := K33.own A2 (by omega)
      have A8 := K33.own A8 (by omega)
      have A11 := K33.own A11 (by omega)
      have A14 := K33.own A14 (by omega)
      have A21 := K33.own A21 (by omega)
      have A24 := K33.own A24 (by omega)
      have A27 := K33.own A27 (by omega)
      have A30 := K33.own A30 (by omega)
      refine o_rd (r_assign (by simp only [ev, envOf, val_set, ofValue, ofCell, ↓reduceIte, Nat.reduceEqDiff] <;> rfl)) rfl rfl ?_
      refine o_nil ?_
      refine w_seq ?_
      refine w_region ?_
      refine o_rd (r_loadN (cs := [.int .i64 (ka), .int .i64 (na), sa]) Ty.agg24 Ty.csz24 (by simp only [ev, envOf, val_set, ofValue, ofCell, ↓reduceIte, Nat.reduceEqDiff] <;> rfl) (read_mt A1 (Nat.le_of_ble_eq_true rfl))) rfl rfl ?_
      refine o_rd (r_move (by simp only [ev, envOf, val_set, ofValue, ofCell, ↓reduceIte, Nat.reduceEqDiff] <;> rfl)) rfl rfl ?_
      refine o_rd (r_loadN (cs := [.int .i64 (kb), .int .i64 (nb), sb]) Ty.agg24 Ty.csz24 (by simp only [ev, envOf, val_set, ofValue, ofCell, ↓reduceIte, Nat.reduceEqDiff] <;> rfl) (read_mt A2 (Nat.le_of_ble_eq_true rfl))) rfl rfl ?_
      refine o_cl rfl rfl (by simp only [evs, ev, envOf, val_set, ofValue, ofCell, ↓reduceIte, Nat.reduceEqDiff] <;> rfl) rfl (withR_z ho W33 (ha.ext E33) (hb.ext E33) (hP.ext E33) (by omega) (by omega) hz2) rfl rfl ?_; rintro _ H34 ⟨s_v, rfl, h_v, X34⟩
      have W34 := X34.wf; have E34 := E33.trans X34
      have A1 := X34.keep _ _ A1
      have A2 := X34.keep _ _ A2
      have A8 := X34.keep _ _ A8
      have A11 := X34.keep _ _ A11
      have A14 := X34.keep _ _ A14
      have A21 := X34.keep _ _ A21
      have A24 := X34.keep _ _ A24
      have A27 := X34.keep _ _ A27
      have A30 := X34.keep _ _ A30
      have A33 := X34.keep _ _ A33
      have n34 := X34.n
      have oh_v := FS.one h_v
      refine o_rd (r_move (by simp only [ev, envOf, val_set, ofValue, ofCell, ↓reduceIte, Nat.reduceEqDiff] <;> rfl)) rfl rfl ?_
      refine o_rd (r_extract (by simp only [ev, envOf, val_set, ofValue, ofCell, ↓reduceIte, Nat.reduceEqDiff] <;> rfl) rfl) rfl rfl ?_
      refine o_rd (r_extract (by simp only [ev, envOf, val_set, ofValue, ofCell, ↓reduceIte, Nat.reduceEqDiff] <;> rfl) rfl) rfl rfl ?_
      refine o_nw W34 (a_alloc Ty.zero24) rfl rfl rfl (by simp) ?_; intro H35 n35 W35 X35 A35
      have A35 : H35.at H34.n = some (.row [.int .i64 (0), .int .i64 (0), .nils] 24 false none) := A35
      have E35 := E34.trans X35
      have g35 : H0.n ≤ H34.n := E34.n
      have A1 := X35.keep _ _ A1
      have A2 := X35.keep _ _ A2
      have A8 := X35.keep _ _ A8
      have A11 := X35.keep _ _ A11
      have A14 := X35.keep _ _ A14
      have A21 := X35.keep _ _ A21
      have A24 := X35.keep _ _ A24
      have A27 := X35.keep _ _ A27
      have A30 := X35.keep _ _ A30
      have A33 := X35.keep _ _ A33
      refine o_st W35 (by simp only [ev, envOf, val_set, ofValue, ofCell, ↓reduceIte, Nat.reduceEqDiff] <;> rfl) (by simp only [ev, envOf, val_set, ofValue, ofCell, ↓reduceIte, Nat.reduceEqDiff] <;> rfl) A35 Ty.csz24 rfl (Nat.le_of_ble_eq_true rfl) (by first | rfl | exact ones3 ohx | exact ones3 ohy | exact ones3 oh_a | exact ones3 oh_b | exact ones3 oh_c | exact ones3 oh_d | exact ones3 oh_u | exact ones3 oh_v) rfl rfl ?_; intro H36 n36 W36 A36 K36
      have A36 : H36.at H34.n = some (.row [.int .i64 (k2), .int .i64 (n2), s_v] 24 false none) := A36
      have E36 := Ext.put W0 E35 (by have := E35.n; omega) K36 n36 W36
      have A1 := K36.own A1 (by omega)
      have A2 := K36.own A2 (by omega)
      have A8 := K36.own A8 (by omega)
      have A11 := K36.own A11 (by omega)
      have A14 := K36.own A14 (by omega)
      have A21 := K36.own A21 (by omega)
      have A24 := K36.own A24 (by omega)
      have A27 := K36.own A27 (by omega)
      have A30 := K36.own A30 (by omega)
      have A33 := K36.own A33 (by omega)
      refine o_rd (r_assign (by simp only [ev, envOf, val_set, ofValue, ofCell, ↓reduceIte, Nat.reduceEqDiff] <;> rfl)) rfl rfl ?_
      refine o_nil ?_
      refine w_seq ?_
      refine w_region ?_
      refine o_rd (r_move (by simp only [ev, envOf, val_set, ofValue, ofCell, ↓reduceIte, Nat.reduceEqDiff] <;> rfl)) rfl rfl ?_
      refine o_rd (r_move (by simp only [ev, envOf, val_set, ofValue, ofCell, ↓reduceIte, Nat.reduceEqDiff] <;> rfl)) rfl rfl ?_
      refine o_rd ((r_eqB (a := (partV (V.mk ka na la) ps).isSome) (b := (partV (V.mk ka na la) ps).isSome) Try.underlying4 (by simp only [ev, envOf, val_set, ofValue, ofCell, ↓reduceIte, Nat.reduceEqDiff] <;> rfl) (by simp only [ev, envOf, val_set, ofValue, ofCell, ↓reduceIte, Nat.reduceEqDiff] <;> rfl)).trans (by rw [beq_self_eq_true])) rfl rfl ?_
      refine o_rd (r_move (by simp only [ev, envOf, val_set, ofValue, ofCell, ↓reduceIte, Nat.reduceEqDiff] <;> rfl)) rfl rfl ?_
      refine o_rd (r_move (by simp only [ev, envOf, val_set, ofValue, ofCell, ↓reduceIte, Nat.reduceEqDiff] <;> rfl)) rfl ((wanted_of (b := true) rfl rfl rfl (by simp only [val_set, ↓reduceIte, Nat.reduceEqDiff] <;> rfl)).trans rfl) ?_
      refine o_rd (r_move (by simp only [ev, envOf, val_set, ofValue, ofCell, ↓reduceIte, Nat.reduceEqDiff] <;> rfl)) rfl ((wanted_of (b := true) rfl rfl rfl (by simp only [val_set, ↓reduceIte, Nat.reduceEqDiff] <;> rfl)).trans rfl) ?_
      refine o_rd ((r_eqB (a := (putV (V.mk ka na la) ps (V.mk kb nb lb)).isSome) (b := (putV (V.mk ka na la) ps (V.mk kb nb lb)).isSome) Try.underlying4 (by simp only [ev, envOf, val_set, ofValue, ofCell, ↓reduceIte, Nat.reduceEqDiff] <;> rfl) (by simp only [ev, envOf, val_set, ofValue, ofCell, ↓reduceIte, Nat.reduceEqDiff] <;> rfl)).trans (by rw [beq_self_eq_true])) rfl ((wanted_of (b := true) rfl rfl rfl (by simp only [val_set, ↓reduceIte, Nat.reduceEqDiff] <;> rfl)).trans rfl) ?_
      refine o_rd (r_pick (t := true) (by simp only [ev, envOf, val_set, ofValue, ofCell, ↓reduceIte, Nat.reduceEqDiff] <;> rfl) (fun _ => (by simp only [ev, envOf, val_set, ofValue, ofCell, ↓reduceIte, Nat.reduceEqDiff] <;> rfl)) (fun h => by cases h)) rfl rfl ?_
      refine o_rd (r_move (by simp only [ev, envOf, val_set, ofValue, ofCell, ↓reduceIte, Nat.reduceEqDiff] <;> rfl)) rfl rfl ?_
      refine o_rd (r_move (by simp only [ev, envOf, val_set, ofValue, ofCell, ↓reduceIte, Nat.reduceEqDiff] <;> rfl)) rfl ((wanted_of (b := true) rfl rfl rfl (by simp only [val_set, ↓reduceIte, Nat.reduceEqDiff] <;> rfl)).trans rfl) ?_
      refine o_rd (r_move (by simp only [ev, envOf, val_set, ofValue, ofCell, ↓reduceIte, Nat.reduceEqDiff] <;> rfl)) rfl ((wanted_of (b := true) rfl rfl rfl (by simp only [val_set, ↓reduceIte, Nat.reduceEqDiff] <;> rfl)).trans rfl) ?_
      refine o_rd ((r_eqB (a := (partV (V.mk ka na la) ps).isSome) (b := (partV (V.mk ka na la) ps).isSome) Try.underlying4 (by simp only [ev, envOf, val_set, ofValue, ofCell, ↓reduceIte, Nat.reduceEqDiff] <;> rfl) (by simp only [ev, envOf, val_set, ofValue, ofCell, ↓reduceIte, Nat.reduceEqDiff] <;> rfl)).trans (by rw [beq_self_eq_true])) rfl ((wanted_of (b := true) rfl rfl rfl (by simp only [val_set, ↓reduceIte, Nat.reduceEqDiff] <;> rfl)).trans rfl) ?_
      refine o_rd (r_pick (t := true) (by simp only [ev, envOf, val_set, ofValue, ofCell, ↓reduceIte, Nat.reduceEqDiff] <;> rfl) (fun _ => (by simp only [ev, envOf, val_set, ofValue, ofCell, ↓reduceIte, Nat.reduceEqDiff] <;> rfl)) (fun h => by cases h)) rfl rfl ?_
      refine o_rd (r_move (by simp only [ev, envOf, val_set, ofValue, ofCell, ↓reduceIte, Nat.reduceEqDiff] <;> rfl)) rfl rfl ?_
      refine o_rd (r_move (by simp only [ev, envOf, val_set, ofValue, ofCell, ↓reduceIte, Nat.reduceEqDiff] <;> rfl)) rfl ((wanted_of (b := true) rfl rfl rfl (by simp only [val_set, ↓reduceIte, Nat.reduceEqDiff] <;> rfl)).trans rfl) ?_
      refine o_rd (r_move (by simp only [ev, envOf, val_set, ofValue, ofCell, ↓reduceIte, Nat.reduceEqDiff] <;> rfl)) rfl ((wanted_of (b := true) rfl rfl rfl (by simp only [val_set, ↓reduceIte, Nat.reduceEqDiff] <;> rfl)).trans rfl) ?_
      refine o_rd ((r_eqB (a := (putV (V.mk ka na la) ps (V.mk kb nb lb)).isSome) (b := (putV (V.mk ka na la) ps (V.mk kb nb lb)).isSome) Try.underlying4 (by simp only [ev, envOf, val_set, ofValue, ofCell, ↓reduceIte, Nat.reduceEqDiff] <;> rfl) (by simp only [ev, envOf, val_set, ofValue, ofCell, ↓reduceIte, Nat.reduceEqDiff] <;> rfl)).trans (by rw [beq_self_eq_true])) rfl ((wanted_of (b := true) rfl rfl rfl (by simp only [val_set, ↓reduceIte, Nat.reduceEqDiff] <;> rfl)).trans rfl) ?_
      refine o_rd (r_pick (t := true) (by simp only [ev, envOf, val_set, ofValue, ofCell, ↓reduceIte, Nat.reduceEqDiff] <;> rfl) (fun _ => (by simp only [ev, envOf, val_set, ofValue, ofCell, ↓reduceIte, Nat.reduceEqDiff] <;> rfl)) (fun h => by cases h)) rfl rfl ?_
      refine o_rd (r_assign (by simp only [ev, envOf, val_set, ofValue, ofCell, ↓reduceIte, Nat.reduceEqDiff] <;> rfl)) rfl rfl ?_
      refine o_nil ?_
      refine w_seq ?_
      refine w_region ?_
      have hXK := PA.ext hx (Ext.put W9 (((Ext.put W9 (((Ext.put W9 (((Ext.put W9 (((Ext.put W9 (((Ext.put W9 ((((Ext.put W9 (((Ext.put W9 ((Ext.refl W9).trans X10) (by omega) K11 n11 W11).trans X12).trans X13) (by omega) K14 n14 W14).trans EW18).trans X19).trans X20) (by omega) K21 n21 W21).trans X22).trans X23) (by omega) K24 n24 W24).trans X25).trans X26) (by omega) K27 n27 W27).trans X28).trans X29) (by omega) K30 n30 W30).trans X31).trans X32) (by omega) K33 n33 W33).trans X34).trans X35) (by omega) K36 n36 W36)
      have hYK := PA.ext hy (Ext.put W12 (((Ext.put W12 (((Ext.put W12 (((Ext.put W12 (((Ext.put W12 (((Ext.put W12 ((((Ext.put W12 ((Ext.refl W12).trans X13) (by omega) K14 n14 W14).trans EW18).trans X19).trans X20) (by omega) K21 n21 W21).trans X22).trans X23) (by omega) K24 n24 W24).trans X25).trans X26) (by omega) K27 n27 W27).trans X28).trans X29) (by omega) K30 n30 W30).trans X31).trans X32) (by omega) K33 n33 W33).trans X34).trans X35) (by omega) K36 n36 W36)
      have hOK := Own.ext Oway (Ext.put W18 (((Ext.put W18 (((Ext.put W18 (((Ext.put W18 (((Ext.put W18 (((Ext.put W18 (((Ext.refl W18).trans X19).trans X20) (by omega) K21 n21 W21).trans X22).trans X23) (by omega) K24 n24 W24).trans X25).trans X26) (by omega) K27 n27 W27).trans X28).trans X29) (by omega) K30 n30 W30).trans X31).trans X32) (by omega) K33 n33 W33).trans X34).trans X35) (by omega) K36 n36 W36)
      replace h_a := FSl.ext h_a (Ext.put W19 (((Ext.put W19 (((Ext.put W19 (((Ext.put W19 (((Ext.put W19 (((Ext.put W19 ((Ext.refl W19).trans X20) (by omega) K21 n21 W21).trans X22).trans X23) (by omega) K24 n24 W24).trans X25).trans X26) (by omega) K27 n27 W27).trans X28).trans X29) (by omega) K30 n30 W30).trans X31).trans X32) (by omega) K33 n33 W33).trans X34).trans X35) (by omega) K36 n36 W36)
      replace h_b := FSl.ext h_b (Ext.put W22 (((Ext.put W22 (((Ext.put W22 (((Ext.put W22 (((Ext.put W22 ((Ext.refl W22).trans X23) (by omega) K24 n24 W24).trans X25).trans X26) (by omega) K27 n27 W27).trans X28).trans X29) (by omega) K30 n30 W30).trans X31).trans X32) (by omega) K33 n33 W33).trans X34).trans X35) (by omega) K36 n36 W36)
      replace h_c := FSl.ext h_c (Ext.put W25 (((Ext.put W25 (((Ext.put W25 (((Ext.put W25 ((Ext.refl W25).trans X26) (by omega) K27 n27 W27).trans X28).trans X29) (by omega) K30 n30 W30).trans X31).trans X32) (by omega) K33 n33 W33).trans X34).trans X35) (by omega) K36 n36 W36)
      replace h_d := FSl.ext h_d (Ext.put W28 (((Ext.put W28 (((Ext.put W28 ((Ext.refl W28).trans X29) (by omega) K30 n30 W30).trans X31).trans X32) (by omega) K33 n33 W33).trans X34).trans X35) (by omega) K36 n36 W36)
      replace h_u := FS.ext h_u (Ext.put W31 (((Ext.put W31 ((Ext.refl W31).trans X32) (by omega) K33 n33 W33).trans X34).trans X35) (by omega) K36 n36 W36)
      replace h_v := FS.ext h_v (Ext.put W34 ((Ext.refl W34).trans X35) (by omega) K36 n36 W36)
      have WK := W36
      refine o_rd (r_move (by simp only [ev, envOf, val_set, ofValue, ofCell, ↓reduceIte, Nat.reduceEqDiff] <;> rfl)) rfl rfl ?_
      refine o_rd (r_loadN (cs := [.int .i64 (k1), .int .i64 (n1), s_a]) Ty.agg24 Ty.csz24 (by simp only [ev, envOf, val_set, ofValue, ofCell, ↓reduceIte, Nat.reduceEqDiff] <;> rfl) (read_mt A21 (Nat.le_of_ble_eq_true rfl))) rfl rfl ?_
      refine o_rd (r_loadN (cs := [.int .i64 (k1), .int .i64 (n1), s_u]) Ty.agg24 Ty.csz24 (by simp only [ev, envOf, val_set, ofValue, ofCell, ↓reduceIte, Nat.reduceEqDiff] <;> rfl) (read_mt A33 (Nat.le_of_ble_eq_true rfl))) rfl rfl ?_
      refine o_cl rfl rfl (by simp only [evs, ev, envOf, val_set, ofValue, ofCell, ↓reduceIte, Nat.reduceEqDiff] <;> rfl) rfl (keep_one ho W0 W36 E36 (H6.n) (by omega) A8 k1 n1 l1 s_a s_u b_a h_a (fun H2 k => by cases FS.k1 h_u k (by omega) with | mk _ _ _ _ h => exact h) (by omega) d_a (fun c hc => by have := r_a c hc; omega)) rfl rfl ?_
      rintro _ H37 ⟨rfl, bo1, fo1, bw1, fw1, ws1, hBK1, hws1, kk1, no1, nw1, hNo1, hNw1, E37⟩
      have W37 := kk1.wf; have n37 := kk1.n; have no11 := no1.1; have nw11 := nw1.1
      have A1 := kk1.row A1 (by omega) (by omega) (by omega)
      have A2 := kk1.row A2 (by omega) (by omega) (by omega)
      have A11 := kk1.row A11 (by omega) (by omega) (by omega)
      have A14 := kk1.row A14 (by omega) (by omega) (by omega)
      have A21 := kk1.row A21 (by omega) (by omega) (by omega)
      have A24 := kk1.row A24 (by omega) (by omega) (by omega)
      have A27 := kk1.row A27 (by omega) (by omega) (by omega)
      have A30 := kk1.row A30 (by omega) (by omega) (by omega)
      have A33 := kk1.row A33 (by omega) (by omega) (by omega)
      have A36 := kk1.row A36 (by omega) (by omega) (by omega)
      have kt1 := kk1; have no1n := no1; have hkt1 := kt1.n
      have lo1 : ∀ x ∈ (b_a) ++ (ws1), x < H21.n ∨ H36.n ≤ x := by
        intro x hx; simp only [List.mem_append] at hx
        rcases hx with hx | hx
        · have := r_a x hx; omega
        · have := hws1 x hx; omega
      refine o_rd (r_assign (by simp only [ev, envOf, val_set, ofValue, ofCell, ↓reduceIte, Nat.reduceEqDiff] <;> rfl)) rfl rfl ?_
      refine o_nil ?_
      refine w_seq ?_
      refine w_region ?_
      refine o_rd (r_move (by simp only [ev, envOf, val_set, ofValue, ofCell, ↓reduceIte, Nat.reduceEqDiff] <;> rfl)) rfl rfl ?_
      refine o_rd (r_loadN (cs := [.int .i64 (k2), .int .i64 (n2), s_b]) Ty.agg24 Ty.csz24 (by simp only [ev, envOf, val_set, ofValue, ofCell, ↓reduceIte, Nat.reduceEqDiff] <;> rfl) (read_mt A24 (Nat.le_of_ble_eq_true rfl))) rfl rfl ?_
      refine o_rd (r_loadN (cs := [.int .i64 (k2), .int .i64 (n2), s_v]) Ty.agg24 Ty.csz24 (by simp only [ev, envOf, val_set, ofValue, ofCell, ↓reduceIte, Nat.reduceEqDiff] <;> rfl) (read_mt A36 (Nat.le_of_ble_eq_true rfl))) rfl rfl ?_
      obtain ⟨oo1, cpo1, ow1, cpw1, co1, cw1, A01, hO1, hW1, hAp1, hbo1, hbw1, hF1, hG1, hnd1, hbr1⟩ := hBK1
      have hh1 : FSl H37 0 b_b l2 s_b := FSl.keepR h_b fun c hc x hx => kt1.row hx (by have := r_b c hc; omega) (by have := r_b c hc; omega) (by have := r_b c hc; omega)
      have dj1 : (_ ++ b_b).Nodup := List.nodup_append.2 ⟨hnd1, d_b, fun x hx y hy => by have h1 := r_b y hy; have h2 := lo1 x hx; omega⟩
      refine o_cl rfl rfl (by simp only [evs, ev, envOf, val_set, ofValue, ofCell, ↓reduceIte, Nat.reduceEqDiff] <;> rfl) rfl (keep_more ho W0 W37 E37 (H6.n) bo1 bw1 oo1 cpo1 ow1 cpw1 fo1 fw1 _ co1 cw1 _ _ (by omega) hNo1 hNw1 A01 hO1 hW1 hAp1 hbo1 hbw1 hF1 hG1 (fun c hc => by have := hbr1 c hc; omega) (by simp) k2 n2 l2 s_b s_v b_b hh1 (fun H2 k => by cases FS.k1 h_v (kt1.trans WK no1 nw1 k) (by omega) with | mk _ _ _ _ h => exact h) (by omega) (dj1) (fun c hc => by have h1 := r_b c hc; have h2 := no1.1; have h3 := nw1.1; omega)) rfl rfl ?_
      rintro _ H38 ⟨rfl, bo2, fo2, bw2, fw2, ws2, hBK2, hws2, kk2, no2, nw2, hNo2, hNw2, E38⟩
      have W38 := kk2.wf; have n38 := kk2.n; have no21 := no2.1; have nw21 := nw2.1
      have A1 := kk2.row A1 (by omega) (by omega) (by omega)
      have A2 := kk2.row A2 (by omega) (by omega) (by omega)
      have A11 := kk2.row A11 (by omega) (by omega) (by omega)
      have A14 := kk2.row A14 (by omega) (by omega) (by omega)
      have A21 := kk2.row A21 (by omega) (by omega) (by omega)
      have A24 := kk2.row A24 (by omega) (by omega) (by omega)
      have A27 := kk2.row A27 (by omega) (by omega) (by omega)
      have A30 := kk2.row A30 (by omega) (by omega) (by omega)
      have A33 := kk2.row A33 (by omega) (by omega) (by omega)
      have A36 := kk2.row A36 (by omega) (by omega) (by omega)
      have kt2 := kt1.trans WK no1 nw1 kk2; have hkt2 := kt2.n
      replace no2 := no1.trans no2 kt1.n; replace nw2 := nw1.trans nw2 kt1.n; have no22 := no2.1; have nw22 := nw2.1
      have lo2 : ∀ x ∈ (b_a ++ b_b) ++ (ws1 ++ ws2), x < H24.n ∨ H36.n ≤ x := by
        intro x hx; simp only [List.mem_append] at hx
        rcases hx with (hx | hx) | (hx | hx)
        · have := r_a x hx; omega
        · have := r_b x hx; omega
        · have := hws1 x hx; omega
        · have := hws2 x hx; omega
      refine o_rd (r_assign (by simp only [ev, envOf, val_set, ofValue, ofCell, ↓reduceIte, Nat.reduceEqDiff] <;> rfl)) rfl rfl ?_
      refine o_nil ?_
      refine w_seq ?_
      refine w_region ?_
      refine o_rd (r_move (by simp only [ev, envOf, val_set, ofValue, ofCell, ↓reduceIte, Nat.reduceEqDiff] <;> rfl)) rfl rfl ?_
      refine o_rd (r_loadN (cs := [.int .i64 (k1), .int .i64 (n1), s_c]) Ty.agg24 Ty.csz24 (by simp only [ev, envOf, val_set, ofValue, ofCell, ↓reduceIte, Nat.reduceEqDiff] <;> rfl) (read_mt A27 (Nat.le_of_ble_eq_true rfl))) rfl rfl ?_
      refine o_rd (r_loadN (cs := [.int .i64 (k1), .int .i64 (n1), s_u]) Ty.agg24 Ty.csz24 (by simp only [ev, envOf, val_set, ofValue, ofCell, ↓reduceIte, Nat.reduceEqDiff] <;> rfl) (read_mt A33 (Nat.le_of_ble_eq_true rfl))) rfl rfl ?_
      obtain ⟨oo2, cpo2, ow2, cpw2, co2, cw2, A02, hO2, hW2, hAp2, hbo2, hbw2, hF2, hG2, hnd2, hbr2⟩ := hBK2
      have hh2 : FSl H38 0 b_c l1 s_c := FSl.keepR h_c fun c hc x hx => kt2.row hx (by have := r_c c hc; omega) (by have := r_c c hc; omega) (by have := r_c c hc; omega)
      have dj2 : (_ ++ b_c).Nodup := List.nodup_append.2 ⟨hnd2, d_c, fun x hx y hy => by have h1 := r_c y hy; have h2 := lo2 x hx; omega⟩
      refine o_cl rfl rfl (by simp only [evs, ev, envOf, val_set, ofValue, ofCell, ↓reduceIte, Nat.reduceEqDiff] <;> rfl) rfl (keep_more ho W0 W38 E38 (H6.n) bo2 bw2 oo2 cpo2 ow2 cpw2 fo2 fw2 _ co2 cw2 _ _ (by omega) hNo2 hNw2 A02 hO2 hW2 hAp2 hbo2 hbw2 hF2 hG2 (fun c hc => by have := hbr2 c hc; omega) (by simp) k1 n1 l1 s_c s_u b_c hh2 (fun H2 k => by cases FS.k1 h_u (kt2.trans WK no2 nw2 k) (by omega) with | mk _ _ _ _ h => exact h) (by omega) (dj2) (fun c hc => by have h1 := r_c c hc; have h2 := no2.1; have h3 := nw2.1; omega)) rfl rfl ?_
      rintro _ H39 ⟨rfl, bo3, fo3, bw3, fw3, ws3, hBK3, hws3, kk3, no3, nw3, hNo3, hNw3, E39⟩
      have W39 := kk3.wf; have n39 := kk3.n; have no31 := no3.1; have nw31 := nw3.1
      have A1 := kk3.row A1 (by omega) (by omega) (by omega)
      have A2 := kk3.row A2 (by omega) (by omega) (by omega)
      have A11 := kk3.row A11 (by omega) (by omega) (by omega)
      have A14 := kk3.row A14 (by omega) (by omega) (by omega)
      have A21 := kk3.row A21 (by omega) (by omega) (by omega)
      have A24 := kk3.row A24 (by omega) (by omega) (by omega)
      have A27 := kk3.row A27 (by omega) (by omega) (by omega)
      have A30 := kk3.row A30 (by omega) (by omega) (by omega)
      have A33 := kk3.row A33 (by omega) (by omega) (by omega)
      have A36 := kk3.row A36 (by omega) (by omega) (by omega)
      have kt3 := kt2.trans WK no2 nw2 kk3; have hkt3 := kt3.n
      replace no3 := no2.trans no3 kt2.n; replace nw3 := nw2.trans nw3 kt2.n; have no32 := no3.1; have nw32 := nw3.1
      have lo3 : ∀ x ∈ (b_a ++ b_b ++ b_c) ++ (ws1 ++ ws2 ++ ws3), x < H27.n ∨ H36.n ≤ x := by
        intro x hx; simp only [List.mem_append] at hx
        rcases hx with ((hx | hx) | hx) | ((hx | hx) | hx)
        · have := r_a x hx; omega
        · have := r_b x hx; omega
        · have := r_c x hx; omega
        · have := hws1 x hx; omega
        · have := hws2 x hx; omega
        · have := hws3 x hx; omega
      refine o_rd (r_assign (by simp only [ev, envOf, val_set, ofValue, ofCell, ↓reduceIte, Nat.reduceEqDiff] <;> rfl)) rfl rfl ?_
      refine o_nil ?_
      refine w_seq ?_
      refine w_region ?_
      refine o_rd (r_move (by simp only [ev, envOf, val_set, ofValue, ofCell, ↓reduceIte, Nat.reduceEqDiff] <;> rfl)) rfl rfl ?_
      refine o_rd (r_loadN (cs := [.int .i64 (k2), .int .i64 (n2), s_d]) Ty.agg24 Ty.csz24 (by simp only [ev, envOf, val_set, ofValue, ofCell, ↓reduceIte, Nat.reduceEqDiff] <;> rfl) (read_mt A30 (Nat.le_of_ble_eq_true rfl))) rfl rfl ?_
      refine o_rd (r_loadN (cs := [.int .i64 (k2), .int .i64 (n2), s_v]) Ty.agg24 Ty.csz24 (by simp only [ev, envOf, val_set, ofValue, ofCell, ↓reduceIte, Nat.reduceEqDiff] <;> rfl) (read_mt A36 (Nat.le_of_ble_eq_true rfl))) rfl rfl ?_
      obtain ⟨oo3, cpo3, ow3, cpw3, co3, cw3, A03, hO3, hW3, hAp3, hbo3, hbw3, hF3, hG3, hnd3, hbr3⟩ := hBK3
      have hh3 : FSl H39 0 b_d l2 s_d := FSl.keepR h_d fun c hc x hx => kt3.row hx (by have := r_d c hc; omega) (by have := r_d c hc; omega) (by have := r_d c hc; omega)
      have dj3 : (_ ++ b_d).Nodup := List.nodup_append.2 ⟨hnd3, d_d, fun x hx y hy => by have h1 := r_d y hy; have h2 := lo3 x hx; omega⟩
      refine o_cl rfl rfl (by simp only [evs, ev, envOf, val_set, ofValue, ofCell, ↓reduceIte, Nat.reduceEqDiff] <;> rfl) rfl (keep_more ho W0 W39 E39 (H6.n) bo3 bw3 oo3 cpo3 ow3 cpw3 fo3 fw3 _ co3 cw3 _ _ (by omega) hNo3 hNw3 A03 hO3 hW3 hAp3 hbo3 hbw3 hF3 hG3 (fun c hc => by have := hbr3 c hc; omega) (by simp) k2 n2 l2 s_d s_v b_d hh3 (fun H2 k => by cases FS.k1 h_v (kt3.trans WK no3 nw3 k) (by omega) with | mk _ _ _ _ h => exact h) (by omega) (dj3) (fun c hc => by have h1 := r_d c hc; have h2 := no3.1; have h3 := nw3.1; omega)) rfl rfl ?_
      rintro _ H40 ⟨rfl, bo4, fo4, bw4, fw4, ws4, hBK4, hws4, kk4, no4, nw4, hNo4, hNw4, E40⟩
      have W40 := kk4.wf; have n40 := kk4.n; have no41 := no4.1; have nw41 := nw4.1
      have A1 := kk4.row A1 (by omega) (by omega) (by omega)
      have A2 := kk4.row A2 (by omega) (by omega) (by omega)
      have A11 := kk4.row A11 (by omega) (by omega) (by omega)
      have A14 := kk4.row A14 (by omega) (by omega) (by omega)
      have A21 := kk4.row A21 (by omega) (by omega) (by omega)
      have A24 := kk4.row A24 (by omega) (by omega) (by omega)
      have A27 := kk4.row A27 (by omega) (by omega) (by omega)
      have A30 := kk4.row A30 (by omega) (by omega) (by omega)
      have A33 := kk4.row A33 (by omega) (by omega) (by omega)
      have A36 := kk4.row A36 (by omega) (by omega) (by omega)
      have kt4 := kt3.trans WK no3 nw3 kk4; have hkt4 := kt4.n
      replace no4 := no3.trans no4 kt3.n; replace nw4 := nw3.trans nw4 kt3.n; have no42 := no4.1; have nw42 := nw4.1
      have hX4 := PA.sameR (fun c x h1 h2 hx => kt4.row hx (by omega) (by omega) (by omega)) hXK
      have hY4 := PA.sameR (fun c x h1 h2 hx => kt4.row hx (by omega) (by omega) (by omega)) hYK
      have hO4w := Own.k1 hOK kt4 (by omega)
      refine o_rd (r_assign (by simp only [ev, envOf, val_set, ofValue, ofCell, ↓reduceIte, Nat.reduceEqDiff] <;> rfl)) rfl rfl ?_
      refine o_nil ?_
      refine w_seq ?_
      refine w_region ?_
      refine o_rd (r_loadN (cs := [.int .i64 (ka), .int .i64 (na), sx]) Ty.agg24 Ty.csz24 (by simp only [ev, envOf, val_set, ofValue, ofCell, ↓reduceIte, Nat.reduceEqDiff] <;> rfl) (read_mt A11 (Nat.le_of_ble_eq_true rfl))) rfl rfl ?_
      refine o_rd (r_loadN (cs := [.int .i64 (ka), .int .i64 (na), sa]) Ty.agg24 Ty.csz24 (by simp only [ev, envOf, val_set, ofValue, ofCell, ↓reduceIte, Nat.reduceEqDiff] <;> rfl) (read_mt A1 (Nat.le_of_ble_eq_true rfl))) rfl rfl ?_
      refine o_cl rfl rfl (by simp only [evs, ev, envOf, val_set, ofValue, ofCell, ↓reduceIte, Nat.reduceEqDiff] <;> rfl) rfl (sameX ho W40 ((PA.ext hX4 (Ext.refl W40)).va) (VA.mk ka na la _ (ha.ext E40))) rfl rfl ?_; rintro _ H41 ⟨rfl, X41⟩
      have W41 := X41.wf; have E41 := E40.trans X41
      have A1 := X41.keep _ _ A1
      have A2 := X41.keep _ _ A2
      have A11 := X41.keep _ _ A11
      have A14 := X41.keep _ _ A14
      have A21 := X41.keep _ _ A21
      have A24 := X41.keep _ _ A24
      have A27 := X41.keep _ _ A27
      have A30 := X41.keep _ _ A30
      have A33 := X41.keep _ _ A33
      have A36 := X41.keep _ _ A36
      have n41 := X41.n
      refine o_rd (r_move (by simp only [ev, envOf, val_set, ofValue, ofCell, ↓reduceIte, Nat.reduceEqDiff] <;> rfl)) rfl rfl ?_
      refine o_rd (r_loadN (cs := [.int .i64 (kb), .int .i64 (nb), sy]) Ty.agg24 Ty.csz24 (by simp only [ev, envOf, val_set, ofValue, ofCell, ↓reduceIte, Nat.reduceEqDiff] <;> rfl) (read_mt A14 (Nat.le_of_ble_eq_true rfl))) rfl ((wanted_of (b := true) rfl rfl rfl (by simp only [val_set, ↓reduceIte, Nat.reduceEqDiff] <;> rfl)).trans rfl) ?_
      refine o_rd (r_loadN (cs := [.int .i64 (kb), .int .i64 (nb), sb]) Ty.agg24 Ty.csz24 (by simp only [ev, envOf, val_set, ofValue, ofCell, ↓reduceIte, Nat.reduceEqDiff] <;> rfl) (read_mt A2 (Nat.le_of_ble_eq_true rfl))) rfl ((wanted_of (b := true) rfl rfl rfl (by simp only [val_set, ↓reduceIte, Nat.reduceEqDiff] <;> rfl)).trans rfl) ?_
      refine o_cl rfl rfl (by simp only [evs, ev, envOf, val_set, ofValue, ofCell, ↓reduceIte, Nat.reduceEqDiff] <;> rfl) rfl (sameX ho W41 ((PA.ext hY4 ((Ext.refl W40).trans X41)).va) (VA.mk kb nb lb _ (hb.ext E41))) rfl ((wanted_of (b := true) rfl rfl rfl (by simp only [val_set, ↓reduceIte, Nat.reduceEqDiff] <;> rfl)).trans rfl) ?_; rintro _ H42 ⟨rfl, X42⟩
      have W42 := X42.wf; have E42 := E41.trans X42
      have A1 := X42.keep _ _ A1
      have A2 := X42.keep _ _ A2
      have A11 := X42.keep _ _ A11
      have A14 := X42.keep _ _ A14
      have A21 := X42.keep _ _ A21
      have A24 := X42.keep _ _ A24
      have A27 := X42.keep _ _ A27
      have A30 := X42.keep _ _ A30
      have A33 := X42.keep _ _ A33
      have A36 := X42.keep _ _ A36
      have n42 := X42.n
      refine o_rd (r_pick (t := true) (by simp only [ev, envOf, val_set, ofValue, ofCell, ↓reduceIte, Nat.reduceEqDiff] <;> rfl) (fun _ => (by simp only [ev, envOf, val_set, ofValue, ofCell, ↓reduceIte, Nat.reduceEqDiff] <;> rfl)) (fun h => by cases h)) rfl rfl ?_
      refine o_rd (r_move (by simp only [ev, envOf, val_set, ofValue, ofCell, ↓reduceIte, Nat.reduceEqDiff] <;> rfl)) rfl rfl ?_
      refine o_rd (r_loadN (cs := [.int .i64 (ka), .int .i64 (na), sx]) Ty.agg24 Ty.csz24 (by simp only [ev, envOf, val_set, ofValue, ofCell, ↓reduceIte, Nat.reduceEqDiff] <;> rfl) (read_mt A11 (Nat.le_of_ble_eq_true rfl))) rfl ((wanted_of (b := true) rfl rfl rfl (by simp only [val_set, ↓reduceIte, Nat.reduceEqDiff] <;> rfl)).trans rfl) ?_
      refine o_cl rfl rfl (by simp only [evs, ev, envOf, val_set, ofValue, ofCell, ↓reduceIte, Nat.reduceEqDiff] <;> rfl) rfl (spare_fin ho (V.mk ka na la) (by omega) _ W42 _ _ _ (PA.ext hX4 (((Ext.refl W40).trans X41).trans X42))) rfl ((wanted_of (b := true) rfl rfl rfl (by simp only [val_set, ↓reduceIte, Nat.reduceEqDiff] <;> rfl)).trans rfl) ?_; rintro _ H43 ⟨rfl, X43⟩
      have W43 := X43.wf; have E43 := E42.trans X43
      have A1 := X43.keep _ _ A1
      have A2 := X43.keep _ _ A2
      have A11 := X43.keep _ _ A11
      have A14 := X43.keep _ _ A14
      have A21 := X43.keep _ _ A21
      have A24 := X43.keep _ _ A24
      have A27 := X43.keep _ _ A27
      have A30 := X43.keep _ _ A30
      have A33 := X43.keep _ _ A33
      have A36 := X43.keep _ _ A36
      have n43 := X43.n
      refine o_rd (r_pick (t := true) (by simp only [ev, envOf, val_set, ofValue, ofCell, ↓reduceIte, Nat.reduceEqDiff] <;> rfl) (fun _ => (by simp only [ev, envOf, val_set, ofValue, ofCell, ↓reduceIte, Nat.reduceEqDiff] <;> rfl)) (fun h => by cases h)) rfl rfl ?_
      refine o_rd (r_move (by simp only [ev, envOf, val_set, ofValue, ofCell, ↓reduceIte, Nat.reduceEqDiff] <;> rfl)) rfl rfl ?_
      refine o_rd (r_loadN (cs := [.int .i64 (kb), .int .i64 (nb), sy]) Ty.agg24 Ty.csz24 (by simp only [ev, envOf, val_set, ofValue, ofCell, ↓reduceIte, Nat.reduceEqDiff] <;> rfl) (read_mt A14 (Nat.le_of_ble_eq_true rfl))) rfl ((wanted_of (b := true) rfl rfl rfl (by simp only [val_set, ↓reduceIte, Nat.reduceEqDiff] <;> rfl)).trans rfl) ?_
      refine o_cl rfl rfl (by simp only [evs, ev, envOf, val_set, ofValue, ofCell, ↓reduceIte, Nat.reduceEqDiff] <;> rfl) rfl (spare_fin ho (V.mk kb nb lb) (by omega) _ W43 _ _ _ (PA.ext hY4 ((((Ext.refl W40).trans X41).trans X42).trans X43))) rfl ((wanted_of (b := true) rfl rfl rfl (by simp only [val_set, ↓reduceIte, Nat.reduceEqDiff] <;> rfl)).trans rfl) ?_; rintro _ H44 ⟨rfl, X44⟩
      have W44 := X44.wf; have E44 := E43.trans X44
      have A1 := X44.keep _ _ A1
      have A2 := X44.keep _ _ A2
      have A11 := X44.keep _ _ A11
      have A14 := X44.keep _ _ A14
      have A21 := X44.keep _ _ A21
      have A24 := X44.keep _ _ A24
      have A27 := X44.keep _ _ A27
      have A30 := X44.keep _ _ A30
      have A33 := X44.keep _ _ A33
      have A36 := X44.keep _ _ A36
      have n44 := X44.n
      refine o_rd (r_pick (t := true) (by simp only [ev, envOf, val_set, ofValue, ofCell, ↓reduceIte, Nat.reduceEqDiff] <;> rfl) (fun _ => (by simp only [ev, envOf, val_set, ofValue, ofCell, ↓reduceIte, Nat.reduceEqDiff] <;> rfl)) (fun h => by cases h)) rfl rfl ?_
      refine o_rd (r_move (by simp only [ev, envOf, val_set, ofValue, ofCell, ↓reduceIte, Nat.reduceEqDiff] <;> rfl)) rfl rfl ?_
      refine o_rd (r_move (by simp only [ev, envOf, val_set, ofValue, ofCell, ↓reduceIte, Nat.reduceEqDiff] <;> rfl)) rfl ((wanted_of (b := true) rfl rfl rfl (by simp only [val_set, ↓reduceIte, Nat.reduceEqDiff] <;> rfl)).trans rfl) ?_
      refine o_rd (r_move (by simp only [ev, envOf, val_set, ofValue, ofCell, ↓reduceIte, Nat.reduceEqDiff] <;> rfl)) rfl ((wanted_of (b := true) rfl rfl rfl (by simp only [val_set, ↓reduceIte, Nat.reduceEqDiff] <;> rfl)).trans rfl) ?_
      refine o_cl rfl rfl (by simp only [evs, ev, envOf, val_set, ofValue, ofCell, ↓reduceIte, Nat.reduceEqDiff] <;> rfl) rfl (numbers_same ho W44 (SI.first (Own.ext hO4w (((((Ext.refl W40).trans X41).trans X42).trans X43).trans X44)) hpb) (hP.1.ext E44) rfl) rfl ((wanted_of (b := true) rfl rfl rfl (by simp only [val_set, ↓reduceIte, Nat.reduceEqDiff] <;> rfl)).trans rfl) ?_; rintro _ H45 ⟨rfl, X45⟩
      have W45 := X45.wf; have E45 := E44.trans X45
      have A1 := X45.keep _ _ A1
      have A2 := X45.keep _ _ A2
      have A11 := X45.keep _ _ A11
      have A14 := X45.keep _ _ A14
      have A21 := X45.keep _ _ A21
      have A24 := X45.keep _ _ A24
      have A27 := X45.keep _ _ A27
      have A30 := X45.keep _ _ A30
      have A33 := X45.keep _ _ A33
      have A36 := X45.keep _ _ A36
      have n45 := X45.n
      refine o_rd (r_pick (t := true) (by simp only [ev, envOf, val_set, ofValue, ofCell, ↓reduceIte, Nat.reduceEqDiff] <;> rfl) (fun _ => (by simp only [ev, envOf, val_set, ofValue, ofCell, ↓reduceIte, Nat.reduceEqDiff] <;> rfl)) (fun h => by cases h)) rfl rfl ?_
      refine o_rd (r_move (by simp only [ev, envOf, val_set, ofValue, ofCell, ↓reduceIte, Nat.reduceEqDiff] <;> rfl)) rfl rfl ?_
      refine o_rd (r_move (by simp only [ev, envOf, val_set, ofValue, ofCell, ↓reduceIte, Nat.reduceEqDiff] <;> rfl)) rfl ((wanted_of (b := true) rfl rfl rfl (by simp only [val_set, ↓reduceIte, Nat.reduceEqDiff] <;> rfl)).trans rfl) ?_
      refine o_rd (r_move (by simp only [ev, envOf, val_set, ofValue, ofCell, ↓reduceIte, Nat.reduceEqDiff] <;> rfl)) rfl ((wanted_of (b := true) rfl rfl rfl (by simp only [val_set, ↓reduceIte, Nat.reduceEqDiff] <;> rfl)).trans rfl) ?_
      refine o_rd (r_len (n := ps.length) Try.underlying28 (by simp only [ev, envOf, val_set, ofValue, ofCell, ↓reduceIte, Nat.reduceEqDiff] <;> rfl) hP.1.lenOf) rfl ((wanted_of (b := true) rfl rfl rfl (by simp only [val_set, ↓reduceIte, Nat.reduceEqDiff] <;> rfl)).trans rfl) ?_
      refine o_rd (r_indexAddr Try.underlying28 Ty.csz3 (by simp only [ev, envOf, val_set, ofValue, ofCell, ↓reduceIte, Nat.reduceEqDiff] <;> rfl) (by simp only [ev, envOf, val_set, ofValue, ofCell, ↓reduceIte, Nat.reduceEqDiff] <;> rfl) (by omega)) rfl ((wanted_of (b := true) rfl rfl rfl (by simp only [val_set, ↓reduceIte, Nat.reduceEqDiff] <;> rfl)).trans rfl) ?_
      refine o_rd (r_load1 Ty.agg3 (by simp only [ev, envOf, val_set, ofValue, ofCell, ↓reduceIte, Nat.reduceEqDiff] <;> rfl) (own_last (Own.ext hO4w ((((((Ext.refl W40).trans X41).trans X42).trans X43).trans X44).trans X45)))) rfl ((wanted_of (b := true) rfl rfl rfl (by simp only [val_set, ↓reduceIte, Nat.reduceEqDiff] <;> rfl)).trans rfl) ?_
      refine o_rd (r_eqT (a := -77) (by simp only [ev, envOf, val_set, ofValue, ofCell, ↓reduceIte, Nat.reduceEqDiff] <;> rfl) (by simp only [ev, envOf, val_set, ofValue, ofCell, ↓reduceIte, Nat.reduceEqDiff] <;> rfl)) rfl ((wanted_of (b := true) rfl rfl rfl (by simp only [val_set, ↓reduceIte, Nat.reduceEqDiff] <;> rfl)).trans rfl) ?_
      refine o_rd (r_pick (t := true) (by simp only [ev, envOf, val_set, ofValue, ofCell, ↓reduceIte, Nat.reduceEqDiff] <;> rfl) (fun _ => (by simp only [ev, envOf, val_set, ofValue, ofCell, ↓reduceIte, Nat.reduceEqDiff] <;> rfl)) (fun h => by cases h)) rfl rfl ?_
      refine o_rd (r_assign (by simp only [ev, envOf, val_set, ofValue, ofCell, ↓reduceIte, Nat.reduceEqDiff] <;> rfl)) rfl rfl ?_
      refine o_nil ?_
      refine w_seq ?_
      refine w_region ?_
      refine o_rd (r_move (by simp only [ev, envOf, val_set, ofValue, ofCell, ↓reduceIte, Nat.reduceEqDiff] <;> rfl)) rfl rfl ?_
      obtain ⟨oo4, cpo4, ow4, cpw4, co4, cw4, A04, hO4, hW4, hAp4, hbo4, hbw4, hF4, hG4, hnd4, hbr4⟩ := hBK4
      have EL := ((((((Ext.refl W40).trans X41).trans X42).trans X43).trans X44).trans X45)
      have hELn := EL.n
      replace A04 := EL.keep _ _ A04; replace hO4 := Own.ext hO4 EL; replace hW4 := Own.ext hW4 EL; replace hF4 := FL.ext hF4 EL; replace hG4 := FL.ext hG4 EL
      have lo4 : ∀ x ∈ (((b_a ++ b_b) ++ b_c) ++ b_d) ++ (((ws1 ++ ws2) ++ ws3) ++ ws4), H18.n ≤ x ∧ (x < H36.n → x < H45.n) := by
        intro x hx; simp only [List.mem_append] at hx
        rcases hx with (((hx | hx) | hx) | hx) | (((hx | hx) | hx) | hx)
        · have := r_a x hx; omega
        · have := r_b x hx; omega
        · have := r_c x hx; omega
        · have := r_d x hx; omega
        · have := hws1 x hx; omega
        · have := hws2 x hx; omega
        · have := hws3 x hx; omega
        · have := hws4 x hx; omega
      refine o_cl rfl rfl (by simp only [evs, ev, envOf, val_set, ofValue, ofCell, ↓reduceIte, Nat.reduceEqDiff] <;> rfl) rfl (spoil_fin ho W0 W45 E45 _ (H6.n) bo4 bw4 oo4 cpo4 ow4 cpw4 fo4 fw4 _ co4 cw4 _ _ A04 hO4 hW4 hF4 hG4 hnd4 (fun c hc => by have h1 := hbr4 c hc; have h2 := lo4 c hc; omega) rfl (by simp) (by simp only [V.cnts_append, V.cnts, List.cons_append, List.nil_append]; omega)) rfl rfl ?_
      rintro _ H46 ⟨rfl, FZ, E46⟩
      have W46 := FZ.wf; have n46 := FZ.n
      have A1 := FZ.keep _ _ A1 (fun hc => by have h1 := lo4 (H0.n) hc; omega)
      have A2 := FZ.keep _ _ A2 (fun hc => by have h1 := lo4 (H1.n) hc; omega)
      have A11 := FZ.keep _ _ A11 (fun hc => by have h1 := lo4 (H9.n) hc; omega)
      have A14 := FZ.keep _ _ A14 (fun hc => by have h1 := lo4 (H12.n) hc; omega)
      have hX5 := PA.same (fun c x h1 h2 hx => FZ.keep c x hx (fun hc => by have h3 := lo4 _ hc; omega)) (PA.ext hX4 EL)
      have hY5 := PA.same (fun c x h1 h2 hx => FZ.keep c x hx (fun hc => by have h3 := lo4 _ hc; omega)) (PA.ext hY4 EL)
      refine o_rd (r_assign (by simp only [ev, envOf, val_set, ofValue, ofCell, ↓reduceIte, Nat.reduceEqDiff] <;> rfl)) rfl rfl ?_
      refine o_nil ?_
      refine w_seq ?_
      refine w_region ?_
      refine o_rd (r_loadN (cs := [.int .i64 (ka), .int .i64 (na), sx]) Ty.agg24 Ty.csz24 (by simp only [ev, envOf, val_set, ofValue, ofCell, ↓reduceIte, Nat.reduceEqDiff] <;> rfl) (read_mt A11 (Nat.le_of_ble_eq_true rfl))) rfl rfl ?_
      refine o_rd (r_loadN (cs := [.int .i64 (ka), .int .i64 (na), sa]) Ty.agg24 Ty.csz24 (by simp only [ev, envOf, val_set, ofValue, ofCell, ↓reduceIte, Nat.reduceEqDiff] <;> rfl) (read_mt A1 (Nat.le_of_ble_eq_true rfl))) rfl rfl ?_
      refine o_cl rfl rfl (by simp only [evs, ev, envOf, val_set, ofValue, ofCell, ↓reduceIte, Nat.reduceEqDiff] <;> rfl) rfl (sameX ho W46 ((PA.ext hX5 (Ext.refl W46)).va) (VA.mk ka na la _ (ha.ext E46))) rfl rfl ?_; rintro _ H47 ⟨rfl, X47⟩
      have W47 := X47.wf; have E47 := E46.trans X47
      have A1 := X47.keep _ _ A1
      have A2 := X47.keep _ _ A2
      have A11 := X47.keep _ _ A11
      have A14 := X47.keep _ _ A14
      have n47 := X47.n
      refine o_rd (r_move (by simp only [ev, envOf, val_set, ofValue, ofCell, ↓reduceIte, Nat.reduceEqDiff] <;> rfl)) rfl rfl ?_
      refine o_rd (r_loadN (cs := [.int .i64 (kb), .int .i64 (nb), sy]) Ty.agg24 Ty.csz24 (by simp only [ev, envOf, val_set, ofValue, ofCell, ↓reduceIte, Nat.reduceEqDiff] <;> rfl) (read_mt A14 (Nat.le_of_ble_eq_true rfl))) rfl ((wanted_of (b := true) rfl rfl rfl (by simp only [val_set, ↓reduceIte, Nat.reduceEqDiff] <;> rfl)).trans rfl) ?_
      refine o_rd (r_loadN (cs := [.int .i64 (kb), .int .i64 (nb), sb]) Ty.agg24 Ty.csz24 (by simp only [ev, envOf, val_set, ofValue, ofCell, ↓reduceIte, Nat.reduceEqDiff] <;> rfl) (read_mt A2 (Nat.le_of_ble_eq_true rfl))) rfl ((wanted_of (b := true) rfl rfl rfl (by simp only [val_set, ↓reduceIte, Nat.reduceEqDiff] <;> rfl)).trans rfl) ?_
      refine o_cl rfl rfl (by simp only [evs, ev, envOf, val_set, ofValue, ofCell, ↓reduceIte, Nat.reduceEqDiff] <;> rfl) rfl (sameX ho W47 ((PA.ext hY5 ((Ext.refl W46).trans X47)).va) (VA.mk kb nb lb _ (hb.ext E47))) rfl ((wanted_of (b := true) rfl rfl rfl (by simp only [val_set, ↓reduceIte, Nat.reduceEqDiff] <;> rfl)).trans rfl) ?_; rintro _ H48 ⟨rfl, X48⟩
      have W48 := X48.wf; have E48 := E47.trans X48
      have A1 := X48.keep _ _ A1
      have A2 := X48.keep _ _ A2
      have A11 := X48.keep _ _ A11
      have A14 := X48.keep _ _ A14
      have n48 := X48.n
      refine o_rd (r_pick (t := true) (by simp only [ev, envOf, val_set, ofValue, ofCell, ↓reduceIte, Nat.reduceEqDiff] <;> rfl) (fun _ => (by simp only [ev, envOf, val_set, ofValue, ofCell, ↓reduceIte, Nat.reduceEqDiff] <;> rfl)) (fun h => by cases h)) rfl rfl ?_
      refine o_rd (r_assign (by simp only [ev, envOf, val_set, ofValue, ofCell, ↓reduceIte, Nat.reduceEqDiff] <;> rfl)) rfl rfl ?_
      refine o_nil ?_
      refine w_seq ?_
      refine w_region ?_
      refine o_rd (r_move (by simp only [ev, envOf, val_set, ofValue, ofCell, ↓reduceIte, Nat.reduceEqDiff] <;> rfl)) rfl rfl ?_
      refine o_rd (r_move (by simp only [ev, envOf, val_set, ofValue, ofCell, ↓reduceIte, Nat.reduceEqDiff] <;> rfl)) rfl rfl ?_
      refine o_rd (r_move (by simp only [ev, envOf, val_set, ofValue, ofCell, ↓reduceIte, Nat.reduceEqDiff] <;> rfl)) rfl ((wanted_of (b := true) rfl rfl rfl (by simp only [val_set, ↓reduceIte, Nat.reduceEqDiff] <;> rfl)).trans rfl) ?_
      refine o_rd (r_pick (t := true) (by simp only [ev, envOf, val_set, ofValue, ofCell, ↓reduceIte, Nat.reduceEqDiff] <;> rfl) (fun _ => (by simp only [ev, envOf, val_set, ofValue, ofCell, ↓reduceIte, Nat.reduceEqDiff] <;> rfl)) (fun h => by cases h)) rfl rfl ?_
      refine o_rd (r_move (by simp only [ev, envOf, val_set, ofValue, ofCell, ↓reduceIte, Nat.reduceEqDiff] <;> rfl)) rfl rfl ?_
      refine o_rd (r_move (by simp only [ev, envOf, val_set, ofValue, ofCell, ↓reduceIte, Nat.reduceEqDiff] <;> rfl)) rfl ((wanted_of (b := true) rfl rfl rfl (by simp only [val_set, ↓reduceIte, Nat.reduceEqDiff] <;> rfl)).trans rfl) ?_
      refine o_rd (r_pick (t := true) (by simp only [ev, envOf, val_set, ofValue, ofCell, ↓reduceIte, Nat.reduceEqDiff] <;> rfl) (fun _ => (by simp only [ev, envOf, val_set, ofValue, ofCell, ↓reduceIte, Nat.reduceEqDiff] <;> rfl)) (fun h => by cases h)) rfl rfl ?_
      refine o_rd (r_move (by simp only [ev, envOf, val_set, ofValue, ofCell, ↓reduceIte, Nat.reduceEqDiff] <;> rfl)) rfl rfl ?_
      refine o_rd (r_move (by simp only [ev, envOf, val_set, ofValue, ofCell, ↓reduceIte, Nat.reduceEqDiff] <;> rfl)) rfl ((wanted_of (b := true) rfl rfl rfl (by simp only [val_set, ↓reduceIte, Nat.reduceEqDiff] <;> rfl)).trans rfl) ?_
      refine o_rd (r_pick (t := true) (by simp only [ev, envOf, val_set, ofValue, ofCell, ↓reduceIte, Nat.reduceEqDiff] <;> rfl) (fun _ => (by simp only [ev, envOf, val_set, ofValue, ofCell, ↓reduceIte, Nat.reduceEqDiff] <;> rfl)) (fun h => by cases h)) rfl rfl ?_
      refine o_rd (r_move (by simp only [ev, envOf, val_set, ofValue, ofCell, ↓reduceIte, Nat.reduceEqDiff] <;> rfl)) rfl rfl ?_
      refine o_rd (r_move (by simp only [ev, envOf, val_set, ofValue, ofCell, ↓reduceIte, Nat.reduceEqDiff] <;> rfl)) rfl ((wanted_of (b := true) rfl rfl rfl (by simp only [val_set, ↓reduceIte, Nat.reduceEqDiff] <;> rfl)).trans rfl) ?_
      refine o_rd (r_pick (t := true) (by simp only [ev, envOf, val_set, ofValue, ofCell, ↓reduceIte, Nat.reduceEqDiff] <;> rfl) (fun _ => (by simp only [ev, envOf, val_set, ofValue, ofCell, ↓reduceIte, Nat.reduceEqDiff] <;> rfl)) (fun h => by cases h)) rfl rfl ?_
      refine o_rd (r_move (by simp only [ev, envOf, val_set, ofValue, ofCell, ↓reduceIte, Nat.reduceEqDiff] <;> rfl)) rfl rfl ?_
      refine o_rd (r_move (by simp only [ev, envOf, val_set, ofValue, ofCell, ↓reduceIte, Nat.reduceEqDiff] <;> rfl)) rfl ((wanted_of (b := true) rfl rfl rfl (by simp only [val_set, ↓reduceIte, Nat.reduceEqDiff] <;> rfl)).trans rfl) ?_
      refine o_rd (r_pick (t := true) (by simp only [ev, envOf, val_set, ofValue, ofCell, ↓reduceIte, Nat.reduceEqDiff] <;> rfl) (fun _ => (by simp only [ev, envOf, val_set, ofValue, ofCell, ↓reduceIte, Nat.reduceEqDiff] <;> rfl)) (fun h => by cases h)) rfl rfl ?_
      refine o_rd (r_move (by simp only [ev, envOf, val_set, ofValue, ofCell, ↓reduceIte, Nat.reduceEqDiff] <;> rfl)) rfl rfl ?_
      refine o_rd (r_move (by simp only [ev, envOf, val_set, ofValue, ofCell, ↓reduceIte, Nat.reduceEqDiff] <;> rfl)) rfl ((wanted_of (b := true) rfl rfl rfl (by simp only [val_set, ↓reduceIte, Nat.reduceEqDiff] <;> rfl)).trans rfl) ?_
      refine o_rd (r_pick (t := true) (by simp only [ev, envOf, val_set, ofValue, ofCell, ↓reduceIte, Nat.reduceEqDiff] <;> rfl) (fun _ => (by simp only [ev, envOf, val_set, ofValue, ofCell, ↓reduceIte, Nat.reduceEqDiff] <;> rfl)) (fun h => by cases h)) rfl rfl ?_
      refine o_rd (r_move (by simp only [ev, envOf, val_set, ofValue, ofCell, ↓reduceIte, Nat.reduceEqDiff] <;> rfl)) rfl rfl ?_
      refine o_rd (r_move (by simp only [ev, envOf, val_set, ofValue, ofCell, ↓reduceIte, Nat.reduceEqDiff] <;> rfl)) rfl ((wanted_of (b := true) rfl rfl rfl (by simp only [val_set, ↓reduceIte, Nat.reduceEqDiff] <;> rfl)).trans rfl) ?_
      refine o_rd (r_pick (t := true) (by simp only [ev, envOf, val_set, ofValue, ofCell, ↓reduceIte, Nat.reduceEqDiff] <;> rfl) (fun _ => (by simp only [ev, envOf, val_set, ofValue, ofCell, ↓reduceIte, Nat.reduceEqDiff] <;> rfl)) (fun h => by cases h)) rfl rfl ?_
      refine o_rd (r_move (by simp only [ev, envOf, val_set, ofValue, ofCell, ↓reduceIte, Nat.reduceEqDiff] <;> rfl)) rfl rfl ?_
      refine o_rd (r_move (by simp only [ev, envOf, val_set, ofValue, ofCell, ↓reduceIte, Nat.reduceEqDiff] <;> rfl)) rfl ((wanted_of (b := true) rfl rfl rfl (by simp only [val_set, ↓reduceIte, Nat.reduceEqDiff] <;> rfl)).trans rfl) ?_
      refine o_rd (r_pick (t := true) (by simp only [ev, envOf, val_set, ofValue, ofCell, ↓reduceIte, Nat.reduceEqDiff] <;> rfl) (fun _ => (by simp only [ev, envOf, val_set, ofValue, ofCell, ↓reduceIte, Nat.reduceEqDiff] <;> rfl)) (fun h => by cases h)) rfl rfl ?_
      refine o_rd (r_assign (by simp only [ev, envOf, val_set, ofValue, ofCell, ↓reduceIte, Nat.reduceEqDiff] <;> rfl)) rfl rfl ?_
      refine o_nil ?_
      refine w_ret ⟨.inr rfl, rfl, .bool (true), (show resultA Try.prog [.tmp 6] _ = _ by simp only [resultA, resultsA, envOf, val_set, ↓reduceIte, Nat.reduceEqDiff, Option.map_some] <;> rfl), ?_⟩
      try dsimp only
      exact ⟨by first | rfl | (exfalso; omega), E48⟩
  · skip
    refine o_sk rfl ((wanted_of (b := true) rfl rfl rfl (by simp only [val_set, ↓reduceIte, Nat.reduceEqDiff] <;> rfl)).trans rfl) ?_
    refine o_sk rfl ((wanted_of (b := true) rfl rfl rfl (by simp only [val_set, ↓reduceIte, Nat.reduceEqDiff] <;> rfl)).trans rfl) ?_
    refine o_rd (r_pick (t := true) (by simp only [ev, envOf, val_set, ofValue, ofCell, ↓reduceIte, Nat.reduceEqDiff] <;> rfl) (fun _ => (by simp only [ev, envOf, val_set, ofValue, ofCell, ↓reduceIte, Nat.reduceEqDiff] <;> rfl)) (fun h => by cases h)) rfl rfl ?_
    refine o_nil ?_
    refine w_cond (t := true) (by simp only [ev, envOf, val_set, ofValue, ofCell, ↓reduceIte, Nat.reduceEqDiff] <;> rfl) (fun _ => ?_) (fun h => by cases h)
    refine w_seq ?_
    refine w_region ?_
    refine o_rd (r_move (by simp only [ev, envOf, val_set, ofValue, ofCell, ↓reduceIte, Nat.reduceEqDiff] <;> rfl)) rfl rfl ?_
    refine o_rd (r_assign (by simp only [ev, envOf, val_set, ofValue, ofCell, ↓reduceIte, Nat.reduceEqDiff] <;> rfl)) rfl rfl ?_
    refine o_nil ?_
    refine w_ret ⟨.inr rfl, rfl, .bool (true), (show resultA Try.prog [.tmp 6] _ = _ by simp only [resultA, resultsA, envOf, val_set, ↓reduceIte, Nat.reduceEqDiff, Option.map_some] <;> rfl), ?_⟩
    try dsimp only
    exact ⟨by first | rfl | (exfalso; omega), E4⟩
end Go.Proofs.Ytenfjdkeikjhlaa.Vs
