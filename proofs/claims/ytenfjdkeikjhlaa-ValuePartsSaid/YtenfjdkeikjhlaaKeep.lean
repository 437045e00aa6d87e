/-
  keep: a value is laid by, with what it must read as.
-/
import Derived.Test.YtenfjdkeikjhlaaBookT
set_option autoImplicit false
set_option linter.unusedVariables false
set_option linter.unusedSimpArgs false
namespace Go.VI
theorem Own.cong {H : AH} {el e n : Nat} {s : AV} {cs cs' : List AV} {b : Nat} {fm : Option Nat} (O : Own H el e s n cs b fm) (h : cs = cs') : Own H el e s n cs' b fm := h ▸ O
end Go.VI
namespace Go.Proofs.Ytenfjdkeikjhlaa.Vs
open Go.VI Go.Proofs
variable {orc : CallF}
theorem _root_.Go.VI.Ext.toKeeps {H H' : AH} {b : Nat} {f : Option Nat} (E : Ext H H') : Keeps H H' b f := fun c x h _ _ => E.keep c x h
set_option maxRecDepth 100000 in
set_option maxHeartbeats 4000000 in
theorem keep_one (ho : NoOrcBut [9, 35, 36] orc) {H0 HS : AH} (W0 : Wf H0) (WS : Wf HS) (ES : Ext H0 HS) (hb : Nat) (hb0 : H0.n ≤ hb) (A0 : HS.at hb = some (.row [.nils, .nils] 41 false none)) (kv nv : Int) (lv : List V) (s1 s2 : AV) (bv : List Nat) (hv : FSl HS 0 bv lv s1) (hst : ∀ H2, K3 hb hb none hb none HS H2 → SA H2 lv s2) (hcv : (V.mk kv nv lv).cnt ≤ 1000000) (hbn : (bv).Nodup) (hbv : ∀ c ∈ bv, c ≠ hb ∧ c < HS.n) : Fin Try.prog orc 31 [.ptr (.mt (hb)) (0), .agg [.int .i64 (kv), .int .i64 (nv), s1], .agg [.int .i64 (kv), .int .i64 (nv), s2]] HS (fun r H' => r = .bool true ∧ ∃ bo' fo' bw' fw' ws, BK H' hb bo' fo' bw' fw' ([.mk kv nv lv]) (bv) (ws) ∧ (∀ c ∈ ws, HS.n ≤ c) ∧ K3 hb hb none hb none HS H' ∧ Nw HS hb none bo' fo' ∧ Nw HS hb none bw' fw' ∧ New H0 bo' fo' ∧ New H0 bw' fw' ∧ Ext H0 H') := by
  have E0 := ES
  have hbl := WS.lt A0
  refine fin_of Try.func31 rfl (by rw [Try.ntmps31]; simp) (ho _ rfl _ _) ?_
  rw [Try.ntmps31]
  refine w_seq ?_
  refine w_region ?_
  refine o_nw WS (a_box (by simp only [ev, envOf, val_set, ofValue, ofCell, ↓reduceIte, Nat.reduceEqDiff] <;> rfl)) rfl rfl rfl (by simp) ?_; intro H1 n1 W1 X1 A1
  have A1 : H1.at HS.n = some (.row [.int .i64 (kv), .int .i64 (nv), s1] 24 false none) := A1
  have E1 := E0.trans X1
  have g1 : H0.n ≤ HS.n := E0.n
  have A0 := X1.keep _ _ A0
  refine o_nw W1 (a_box (by simp only [ev, envOf, val_set, ofValue, ofCell, ↓reduceIte, Nat.reduceEqDiff] <;> rfl)) rfl rfl rfl (by simp) ?_; intro H2 n2 W2 X2 A2
  have A2 : H2.at H1.n = some (.row [.int .i64 (kv), .int .i64 (nv), s2] 24 false none) := A2
  have E2 := E1.trans X2
  have g2 : H0.n ≤ H1.n := E1.n
  have A0 := X2.keep _ _ A0
  have A1 := X2.keep _ _ A1
  refine o_rd (r_assign (by simp only [ev, envOf, val_set, ofValue, ofCell, ↓reduceIte, Nat.reduceEqDiff] <;> rfl)) rfl rfl ?_
  refine o_nil ?_
  refine w_seq ?_
  refine w_draw2 (ms := [0, 1, 3, 7, 0, 15, 0, 127, 255, 511, 255, 1279, 3327]) (ord := [0, 1, 2, 3, 4, 5, 6, 7, 8, 10, 11, 9, 12]) (by kernel_rfl) (by kernel_rfl) (by kernel_rfl) (by kernel_rfl) ?_
  refine d_rd rfl (r_move (by simp only [ev, envOf, val_set, ofValue, ofCell, ↓reduceIte, Nat.reduceEqDiff] <;> rfl)) rfl rfl ?_
  refine d_rd rfl (r_nilCheck (by simp only [ev, envOf, val_set, ofValue, ofCell, ↓reduceIte, Nat.reduceEqDiff] <;> rfl)) rfl rfl ?_
  refine d_rd rfl (r_fieldAddr Ty.fo41_0 (by simp only [ev, envOf, val_set, ofValue, ofCell, ↓reduceIte, Nat.reduceEqDiff] <;> rfl)) rfl rfl ?_
  refine d_rd rfl (r_load1 (v := .nils) Ty.agg22 (by simp only [ev, envOf, val_set, ofValue, ofCell, ↓reduceIte, Nat.reduceEqDiff] <;> rfl) (read_mt A0 (Nat.le_of_ble_eq_true rfl))) rfl rfl ?_
  refine d_rd rfl (r_loadN (cs := [.int .i64 (kv), .int .i64 (nv), s1]) Ty.agg24 Ty.csz24 (by simp only [ev, envOf, val_set, ofValue, ofCell, ↓reduceIte, Nat.reduceEqDiff] <;> rfl) (read_mt A1 (Nat.le_of_ble_eq_true rfl))) rfl rfl ?_
  refine d_rd rfl (r_len (n := 0) Try.underlying22 (by simp only [ev, envOf, val_set, ofValue, ofCell, ↓reduceIte, Nat.reduceEqDiff] <;> rfl) rfl) rfl rfl ?_
  refine d_nw rfl W2 (a_build1 Try.underlying22 Ty.csz24 Ty.zero24 rfl (by simp only [ev, envOf, val_set, ofValue, ofCell, ↓reduceIte, Nat.reduceEqDiff] <;> rfl) rfl (by decide)) rfl rfl rfl (by simp) ?_; intro H3 n3 W3 X3 A3
  have A3 : H3.at H2.n = some (.row [.int .i64 0, .int .i64 0, .nils] 24 false none) := A3
  have E3 := E2.trans X3
  have A0 := X3.keep _ _ A0
  have A1 := X3.keep _ _ A1
  have A2 := X3.keep _ _ A2
  refine ⟨re_same (r_len (n := 0) Try.underlying22 (by simp only [ev, envOf, val_set, ofValue, ofCell, ↓reduceIte, Nat.reduceEqDiff] <;> rfl) rfl) (re_same (r_loadN (cs := [.int .i64 (kv), .int .i64 (nv), s1]) Ty.agg24 Ty.csz24 (by simp only [ev, envOf, val_set, ofValue, ofCell, ↓reduceIte, Nat.reduceEqDiff] <;> rfl) (read_mt A1 (Nat.le_of_ble_eq_true rfl))) (re_same (r_load1 (v := .nils) Ty.agg22 (by simp only [ev, envOf, val_set, ofValue, ofCell, ↓reduceIte, Nat.reduceEqDiff] <;> rfl) (read_mt A0 (Nat.le_of_ble_eq_true rfl))) (re_same (r_fieldAddr Ty.fo41_0 (by simp only [ev, envOf, val_set, ofValue, ofCell, ↓reduceIte, Nat.reduceEqDiff] <;> rfl)) (re_same (r_nilCheck (by simp only [ev, envOf, val_set, ofValue, ofCell, ↓reduceIte, Nat.reduceEqDiff] <;> rfl)) (re_same (r_move (by simp only [ev, envOf, val_set, ofValue, ofCell, ↓reduceIte, Nat.reduceEqDiff] <;> rfl)) (re_nil)))))), ?_⟩
  refine d_apN rfl W3 Try.underlying22 Try.underlying22 rfl Ty.csz24 Ty.byt24 Ty.zero24 rfl (by simp only [ev, envOf, val_set, ofValue, ofCell, ↓reduceIte, Nat.reduceEqDiff] <;> rfl) (by simp only [ev, envOf, val_set, ofValue, ofCell, ↓reduceIte, Nat.reduceEqDiff] <;> rfl) (src_fresh (n := 1) A3 rfl) rfl rfl (Nat.le_refl _) (by omega) rfl rfl ?_; intro s4 H4 O4 W4 n4 X4
  have E4 := E3.trans X4
  have hNN4 : New H0 H3.n none := ⟨E3.n, fun f h => by cases h⟩
  have A0 := X4.keep _ _ A0
  have A1 := X4.keep _ _ A1
  have A2 := X4.keep _ _ A2
  have A3 := X4.keep _ _ A3
  obtain ⟨oo4, cp4, rfl, O4⟩ := own_open O4
  have hln4 : H3.n ≤ H4.n := by omega
  refine ⟨re_forcedL (M := 127) (I := 5) rfl rfl (by decide) (re_forcedL (M := 127) (I := 4) rfl rfl (by decide) (re_forcedL (M := 127) (I := 3) rfl rfl (by decide) (re_forcedL (M := 127) (I := 2) rfl rfl (by decide) (re_forcedL (M := 127) (I := 1) rfl rfl (by decide) (re_forcedL (M := 127) (I := 0) rfl rfl (by decide) (re_nil)))))), ?_⟩
  refine d_rd rfl (r_indexAddr Try.underlying22 Ty.csz24 (by simp only [ev, envOf, val_set, ofValue, ofCell, ↓reduceIte, Nat.reduceEqDiff] <;> rfl) (by simp only [ev, envOf, val_set, ofValue, ofCell, ↓reduceIte, Nat.reduceEqDiff] <;> rfl) (by omega)) rfl rfl ?_
  refine d_rd rfl (r_nilCheck (by simp only [ev, envOf, val_set, ofValue, ofCell, ↓reduceIte, Nat.reduceEqDiff] <;> rfl)) rfl rfl ?_
  refine d_rd rfl (r_fieldAddr Ty.fo41_0 (by simp only [ev, envOf, val_set, ofValue, ofCell, ↓reduceIte, Nat.reduceEqDiff] <;> rfl)) rfl rfl ?_
  refine d_stO rfl W4 O4 (j := 0) (by omega) (by simp only [ev, envOf, val_set, ofValue, ofCell, ↓reduceIte, Nat.reduceEqDiff] <;> rfl) (by simp only [ev, envOf, val_set, ofValue, ofCell, ↓reduceIte, Nat.reduceEqDiff] <;> rfl) Ty.csz24 rfl (by exact ones3 (SA.one' hv.sa)) rfl rfl ?_; intro H5 n5 W5 O5 K5
  replace O5 := Own.cong O5 (cs' := [.int .i64 (kv), .int .i64 (nv), s1]) (splice_end (cs := []) rfl rfl)
  have E5 := Ext.keeps W0 E4 hNN4 K5 (by omega) W5
  have A0 := K5.at A0 (by omega) rfl
  have A1 := K5.at A1 (by omega) rfl
  have A2 := K5.at A2 (by omega) rfl
  have A3 := K5.at A3 (by omega) rfl
  refine ⟨re_same (r_fieldAddr Ty.fo41_0 (by simp only [ev, envOf, val_set, ofValue, ofCell, ↓reduceIte, Nat.reduceEqDiff] <;> rfl)) (re_same (r_nilCheck (by simp only [ev, envOf, val_set, ofValue, ofCell, ↓reduceIte, Nat.reduceEqDiff] <;> rfl)) (re_forcedL (M := 511) (I := 8) rfl rfl (by decide) (re_forcedL (M := 511) (I := 5) rfl rfl (by decide) (re_forcedL (M := 511) (I := 4) rfl rfl (by decide) (re_forcedL (M := 511) (I := 3) rfl rfl (by decide) (re_forcedL (M := 511) (I := 2) rfl rfl (by decide) (re_forcedL (M := 511) (I := 1) rfl rfl (by decide) (re_forcedL (M := 511) (I := 0) rfl rfl (by decide) (re_nil))))))))), ?_⟩
  refine d_st rfl W5 (by simp only [ev, envOf, val_set, ofValue, ofCell, ↓reduceIte, Nat.reduceEqDiff] <;> rfl) (by simp only [ev, envOf, val_set, ofValue, ofCell, ↓reduceIte, Nat.reduceEqDiff] <;> rfl) A0 Ty.csz22 rfl (Nat.le_of_ble_eq_true rfl) (by first | rfl | exact ones3 (SA.one' hv.sa)) rfl rfl ?_; intro H6 n6 W6 A6 K6
  have A6 : H6.at hb = some (.row [.sl (.mt (H3.n)) (oo4) (1) cp4, .nils] 41 false none) := A6
  have E6 := Ext.put W0 E5 (by have := E5.n; omega) K6 n6 W6
  have A1 := K6.own A1 (by omega)
  have A2 := K6.own A2 (by omega)
  have A3 := K6.own A3 (by omega)
  refine ⟨re_forcedL (M := 3327) (I := 11) rfl rfl (by decide) (re_forcedL (M := 3327) (I := 10) rfl rfl (by decide) (re_same (r_indexAddr Try.underlying22 Ty.csz24 (by simp only [ev, envOf, val_set, ofValue, ofCell, ↓reduceIte, Nat.reduceEqDiff] <;> rfl) (by simp only [ev, envOf, val_set, ofValue, ofCell, ↓reduceIte, Nat.reduceEqDiff] <;> rfl) (by omega)) (re_forcedL (M := 3327) (I := 5) rfl rfl (by decide) (re_forcedL (M := 3327) (I := 4) rfl rfl (by decide) (re_forcedL (M := 3327) (I := 3) rfl rfl (by decide) (re_forcedL (M := 3327) (I := 2) rfl rfl (by decide) (re_forcedL (M := 3327) (I := 1) rfl rfl (by decide) (re_forcedL (M := 3327) (I := 0) rfl rfl (by decide) (re_nil))))))))), ?_⟩
  refine d_nil ⟨apart2_of (pre := [0, 1, 2, 3, 4, 5, 6, 7, 8, 10, 11]) (i := 9) (j := 12) rfl rfl rfl rfl rfl (by simp only [ev, envOf, val_set, ofValue, ofCell, ↓reduceIte, Nat.reduceEqDiff] <;> rfl) (by simp only [ev, envOf, val_set, ofValue, ofCell, ↓reduceIte, Nat.reduceEqDiff] <;> rfl) (by omega), ?_⟩
  refine w_seq ?_
  refine w_draw2 (ms := [0, 1, 3, 7, 0, 16, 15, 0, 255, 511, 1023, 511, 2559, 6655]) (ord := [0, 1, 2, 3, 4, 6, 7, 5, 8, 9, 11, 12, 10, 13]) (by kernel_rfl) (by kernel_rfl) (by kernel_rfl) (by kernel_rfl) ?_
  refine d_rd rfl (r_move (by simp only [ev, envOf, val_set, ofValue, ofCell, ↓reduceIte, Nat.reduceEqDiff] <;> rfl)) rfl rfl ?_
  refine d_rd rfl (r_nilCheck (by simp only [ev, envOf, val_set, ofValue, ofCell, ↓reduceIte, Nat.reduceEqDiff] <;> rfl)) rfl rfl ?_
  refine d_rd rfl (r_fieldAddr Ty.fo41_1 (by simp only [ev, envOf, val_set, ofValue, ofCell, ↓reduceIte, Nat.reduceEqDiff] <;> rfl)) rfl rfl ?_
  refine d_rd rfl (r_load1 (v := .nils) Ty.agg22 (by simp only [ev, envOf, val_set, ofValue, ofCell, ↓reduceIte, Nat.reduceEqDiff] <;> rfl) (read_mt A6 (Nat.le_of_ble_eq_true rfl))) rfl rfl ?_
  refine d_rd rfl (r_loadN (cs := [.int .i64 (kv), .int .i64 (nv), s2]) Ty.agg24 Ty.csz24 (by simp only [ev, envOf, val_set, ofValue, ofCell, ↓reduceIte, Nat.reduceEqDiff] <;> rfl) (read_mt A2 (Nat.le_of_ble_eq_true rfl))) rfl rfl ?_
  refine d_rd rfl (r_len (n := 0) Try.underlying22 (by simp only [ev, envOf, val_set, ofValue, ofCell, ↓reduceIte, Nat.reduceEqDiff] <;> rfl) rfl) rfl rfl ?_
  refine d_nw rfl W6 (a_build1 Try.underlying22 Ty.csz24 Ty.zero24 rfl (by simp only [ev, envOf, val_set, ofValue, ofCell, ↓reduceIte, Nat.reduceEqDiff] <;> rfl) rfl (by decide)) rfl rfl rfl (by simp) ?_; intro H7 n7 W7 X7 A7
  have A7 : H7.at H6.n = some (.row [.int .i64 0, .int .i64 0, .nils] 24 false none) := A7
  have E7 := E6.trans X7
  have A6 := X7.keep _ _ A6
  have A1 := X7.keep _ _ A1
  have A2 := X7.keep _ _ A2
  have A3 := X7.keep _ _ A3
  refine ⟨re_same (r_len (n := 0) Try.underlying22 (by simp only [ev, envOf, val_set, ofValue, ofCell, ↓reduceIte, Nat.reduceEqDiff] <;> rfl) rfl) (re_same (r_loadN (cs := [.int .i64 (kv), .int .i64 (nv), s2]) Ty.agg24 Ty.csz24 (by simp only [ev, envOf, val_set, ofValue, ofCell, ↓reduceIte, Nat.reduceEqDiff] <;> rfl) (read_mt A2 (Nat.le_of_ble_eq_true rfl))) (re_same (r_load1 (v := .nils) Ty.agg22 (by simp only [ev, envOf, val_set, ofValue, ofCell, ↓reduceIte, Nat.reduceEqDiff] <;> rfl) (read_mt A6 (Nat.le_of_ble_eq_true rfl))) (re_same (r_fieldAddr Ty.fo41_1 (by simp only [ev, envOf, val_set, ofValue, ofCell, ↓reduceIte, Nat.reduceEqDiff] <;> rfl)) (re_same (r_nilCheck (by simp only [ev, envOf, val_set, ofValue, ofCell, ↓reduceIte, Nat.reduceEqDiff] <;> rfl)) (re_same (r_move (by simp only [ev, envOf, val_set, ofValue, ofCell, ↓reduceIte, Nat.reduceEqDiff] <;> rfl)) (re_nil)))))), ?_⟩
  have kk8 := (K3.refl (hb := hb) (b := hb) (f := none) (b' := hb) (f' := none) WS).trans WS (Nw.refl (b := hb) (f := none)) (Nw.refl (b := hb) (f := none)) (K3.ofExt X1)
  have no8 := ((Nw.refl (b := hb) (f := none))).trans Nw.refl (K3.refl (hb := hb) (b := hb) (f := none) (b' := hb) (f' := none) WS).n; have nw8 := ((Nw.refl (b := hb) (f := none))).trans Nw.refl (K3.refl (hb := hb) (b := hb) (f := none) (b' := hb) (f' := none) WS).n; have hkn8 := kk8.n
  have kk9 := kk8.trans WS no8 nw8 (K3.ofExt X2)
  have no9 := (no8).trans Nw.refl kk8.n; have nw9 := (nw8).trans Nw.refl kk8.n; have hkn9 := kk9.n
  have kk10 := kk9.trans WS no9 nw9 (K3.ofExt X3)
  have no10 := (no9).trans Nw.refl kk9.n; have nw10 := (nw9).trans Nw.refl kk9.n; have hkn10 := kk10.n
  have kk11 := kk10.trans WS no10 nw10 (K3.ofExt X4)
  have no11 := (no10).trans (show Nw H3 hb none H3.n none from ⟨.inr (Nat.le_refl _), fun g h => by cases h⟩) kk10.n; have nw11 := (nw10).trans Nw.refl kk10.n; have hkn11 := kk11.n
  have kk12 := kk11.trans WS no11 nw11 (K3.first K5 (by omega) W5)
  have no12 := (no11).trans Nw.refl kk11.n; have nw12 := (nw11).trans Nw.refl kk11.n; have hkn12 := kk12.n
  have kk13 := kk12.trans WS no12 nw12 (K3.own K6 n6 W6)
  have no13 := (no12).trans Nw.refl kk12.n; have nw13 := (nw12).trans Nw.refl kk12.n; have hkn13 := kk13.n
  have kk14 := kk13.trans WS no13 nw13 (K3.ofExt X7)
  have no14 := (no13).trans Nw.refl kk13.n; have nw14 := (nw13).trans Nw.refl kk13.n; have hkn14 := kk14.n
  have hst1 := hst _ kk14
  refine d_cl rfl rfl rfl (by simp only [evs, ev, envOf, val_set, ofValue, ofCell, ↓reduceIte, Nat.reduceEqDiff] <;> rfl) rfl (ownL_fin ho (.mk kv nv lv) hcv _ W7 _ (.mk _ _ _ _ hst1)) rfl rfl ?_; rintro _ H15 ⟨aw, rfl, hPA, X15⟩
  have W15 := X15.wf; have E15 := E7.trans X15
  have A6 := X15.keep _ _ A6
  have A1 := X15.keep _ _ A1
  have A2 := X15.keep _ _ A2
  have A3 := X15.keep _ _ A3
  have A7 := X15.keep _ _ A7
  have n15 := X15.n
  refine ⟨re_same (r_len (n := 0) Try.underlying22 (by simp only [ev, envOf, val_set, ofValue, ofCell, ↓reduceIte, Nat.reduceEqDiff] <;> rfl) rfl) (re_forcedL (M := 16) (I := 4) rfl rfl (by decide) (re_same (r_load1 (v := .nils) Ty.agg22 (by simp only [ev, envOf, val_set, ofValue, ofCell, ↓reduceIte, Nat.reduceEqDiff] <;> rfl) (read_mt A6 (Nat.le_of_ble_eq_true rfl))) (re_same (r_fieldAddr Ty.fo41_1 (by simp only [ev, envOf, val_set, ofValue, ofCell, ↓reduceIte, Nat.reduceEqDiff] <;> rfl)) (re_same (r_nilCheck (by simp only [ev, envOf, val_set, ofValue, ofCell, ↓reduceIte, Nat.reduceEqDiff] <;> rfl)) (re_same (r_move (by simp only [ev, envOf, val_set, ofValue, ofCell, ↓reduceIte, Nat.reduceEqDiff] <;> rfl)) (re_nil)))))), ?_⟩
  refine d_apN rfl W15 Try.underlying22 Try.underlying22 rfl Ty.csz24 Ty.byt24 Ty.zero24 rfl (by simp only [ev, envOf, val_set, ofValue, ofCell, ↓reduceIte, Nat.reduceEqDiff] <;> rfl) (by simp only [ev, envOf, val_set, ofValue, ofCell, ↓reduceIte, Nat.reduceEqDiff] <;> rfl) (src_fresh (n := 1) A7 rfl) rfl rfl (Nat.le_refl _) (by omega) rfl rfl ?_; intro s16 H16 O16 W16 n16 X16
  have E16 := E15.trans X16
  have hNN16 : New H0 H15.n none := ⟨E15.n, fun f h => by cases h⟩
  have A6 := X16.keep _ _ A6
  have A1 := X16.keep _ _ A1
  have A2 := X16.keep _ _ A2
  have A3 := X16.keep _ _ A3
  have A7 := X16.keep _ _ A7
  have Oo16 := (((Own.keep O5 fun x hx _ => K6.own hx (by omega)).ext X7).ext X15)
  have Ap16 : Apart H3.n none H15.n none := ⟨by have := Oo16.lt W15; omega, .inl rfl⟩
  replace Oo16 := Oo16.ext X16
  obtain ⟨oo16, cp16, rfl, O16⟩ := own_open O16
  have hln16 : H15.n ≤ H16.n := by omega
  refine ⟨re_forcedL (M := 255) (I := 6) rfl rfl (by decide) (re_forcedL (M := 255) (I := 4) rfl rfl (by decide) (re_forcedL (M := 255) (I := 3) rfl rfl (by decide) (re_forcedL (M := 255) (I := 2) rfl rfl (by decide) (re_forcedL (M := 255) (I := 1) rfl rfl (by decide) (re_forcedL (M := 255) (I := 0) rfl rfl (by decide) (re_nil)))))), ?_⟩
  refine d_rd rfl (r_indexAddr Try.underlying22 Ty.csz24 (by simp only [ev, envOf, val_set, ofValue, ofCell, ↓reduceIte, Nat.reduceEqDiff] <;> rfl) (by simp only [ev, envOf, val_set, ofValue, ofCell, ↓reduceIte, Nat.reduceEqDiff] <;> rfl) (by omega)) rfl rfl ?_
  refine d_rd rfl (r_nilCheck (by simp only [ev, envOf, val_set, ofValue, ofCell, ↓reduceIte, Nat.reduceEqDiff] <;> rfl)) rfl rfl ?_
  refine d_rd rfl (r_fieldAddr Ty.fo41_1 (by simp only [ev, envOf, val_set, ofValue, ofCell, ↓reduceIte, Nat.reduceEqDiff] <;> rfl)) rfl rfl ?_
  refine d_stO rfl W16 O16 (j := 0) (by omega) (by simp only [ev, envOf, val_set, ofValue, ofCell, ↓reduceIte, Nat.reduceEqDiff] <;> rfl) (by simp only [ev, envOf, val_set, ofValue, ofCell, ↓reduceIte, Nat.reduceEqDiff] <;> rfl) Ty.csz24 (by exact hPA.len) (by exact hPA.va.ones) rfl rfl ?_; intro H17 n17 W17 O17 K17
  replace O17 := Own.cong O17 (cs' := aw) (splice_end (cs := []) rfl (by rw [show (AV.agg aw).cells = aw from rfl, hPA.len]; rfl))
  have E17 := Ext.keeps W0 E16 hNN16 K17 (by omega) W17
  have A6 := K17.at A6 (by omega) rfl
  have A1 := K17.at A1 (by omega) rfl
  have A2 := K17.at A2 (by omega) rfl
  have A3 := K17.at A3 (by omega) rfl
  have A7 := K17.at A7 (by omega) rfl
  refine ⟨re_same (r_fieldAddr Ty.fo41_1 (by simp only [ev, envOf, val_set, ofValue, ofCell, ↓reduceIte, Nat.reduceEqDiff] <;> rfl)) (re_same (r_nilCheck (by simp only [ev, envOf, val_set, ofValue, ofCell, ↓reduceIte, Nat.reduceEqDiff] <;> rfl)) (re_forcedL (M := 1023) (I := 9) rfl rfl (by decide) (re_forcedL (M := 1023) (I := 6) rfl rfl (by decide) (re_forcedL (M := 1023) (I := 4) rfl rfl (by decide) (re_forcedL (M := 1023) (I := 3) rfl rfl (by decide) (re_forcedL (M := 1023) (I := 2) rfl rfl (by decide) (re_forcedL (M := 1023) (I := 1) rfl rfl (by decide) (re_forcedL (M := 1023) (I := 0) rfl rfl (by decide) (re_nil))))))))), ?_⟩
  refine d_st rfl W17 (by simp only [ev, envOf, val_set, ofValue, ofCell, ↓reduceIte, Nat.reduceEqDiff] <;> rfl) (by simp only [ev, envOf, val_set, ofValue, ofCell, ↓reduceIte, Nat.reduceEqDiff] <;> rfl) A6 Ty.csz22 rfl (Nat.le_of_ble_eq_true rfl) (by first | rfl | exact ones3 (SA.one' hv.sa)) rfl rfl ?_; intro H18 n18 W18 A18 K18
  have A18 : H18.at hb = some (.row [.sl (.mt (H3.n)) (oo4) (1) cp4, .sl (.mt (H15.n)) (oo16) (1) cp16] 41 false none) := A18
  have E18 := Ext.put W0 E17 (by have := E17.n; omega) K18 n18 W18
  have A1 := K18.own A1 (by omega)
  have A2 := K18.own A2 (by omega)
  have A3 := K18.own A3 (by omega)
  have A7 := K18.own A7 (by omega)
  refine ⟨re_forcedL (M := 6655) (I := 12) rfl rfl (by decide) (re_forcedL (M := 6655) (I := 11) rfl rfl (by decide) (re_same (r_indexAddr Try.underlying22 Ty.csz24 (by simp only [ev, envOf, val_set, ofValue, ofCell, ↓reduceIte, Nat.reduceEqDiff] <;> rfl) (by simp only [ev, envOf, val_set, ofValue, ofCell, ↓reduceIte, Nat.reduceEqDiff] <;> rfl) (by omega)) (re_forcedL (M := 6655) (I := 6) rfl rfl (by decide) (re_forcedL (M := 6655) (I := 4) rfl rfl (by decide) (re_forcedL (M := 6655) (I := 3) rfl rfl (by decide) (re_forcedL (M := 6655) (I := 2) rfl rfl (by decide) (re_forcedL (M := 6655) (I := 1) rfl rfl (by decide) (re_forcedL (M := 6655) (I := 0) rfl rfl (by decide) (re_nil))))))))), ?_⟩
  refine d_nil ⟨apart2_of (pre := [0, 1, 2, 3, 4, 6, 7, 5, 8, 9, 11, 12]) (i := 10) (j := 13) rfl rfl rfl rfl rfl (by simp only [ev, envOf, val_set, ofValue, ofCell, ↓reduceIte, Nat.reduceEqDiff] <;> rfl) (by simp only [ev, envOf, val_set, ofValue, ofCell, ↓reduceIte, Nat.reduceEqDiff] <;> rfl) (by omega), ?_⟩
  refine w_seq ?_
  refine w_region ?_
  refine o_rd (r_loadN (cs := [.int .i64 (kv), .int .i64 (nv), s1]) Ty.agg24 Ty.csz24 (by simp only [ev, envOf, val_set, ofValue, ofCell, ↓reduceIte, Nat.reduceEqDiff] <;> rfl) (read_mt A1 (Nat.le_of_ble_eq_true rfl))) rfl rfl ?_
  refine o_rd (r_loadN (cs := [.int .i64 (kv), .int .i64 (nv), s2]) Ty.agg24 Ty.csz24 (by simp only [ev, envOf, val_set, ofValue, ofCell, ↓reduceIte, Nat.reduceEqDiff] <;> rfl) (read_mt A2 (Nat.le_of_ble_eq_true rfl))) rfl rfl ?_
  have kk19 := kk14.trans WS no14 nw14 (K3.ofExt X15)
  have no19 := (no14).trans Nw.refl kk14.n; have nw19 := (nw14).trans Nw.refl kk14.n; have hkn19 := kk19.n
  have kk20 := kk19.trans WS no19 nw19 (K3.ofExt X16)
  have no20 := (no19).trans Nw.refl kk19.n; have nw20 := (nw19).trans (show Nw H15 hb none H15.n none from ⟨.inr (Nat.le_refl _), fun g h => by cases h⟩) kk19.n; have hkn20 := kk20.n
  have kk21 := kk20.trans WS no20 nw20 (K3.second K17 (by omega) W17)
  have no21 := (no20).trans Nw.refl kk20.n; have nw21 := (nw20).trans Nw.refl kk20.n; have hkn21 := kk21.n
  have kk22 := kk21.trans WS no21 nw21 (K3.own K18 n18 W18)
  have no22 := (no21).trans Nw.refl kk21.n; have nw22 := (nw21).trans Nw.refl kk21.n; have hkn22 := kk22.n
  have hst2 := hst _ kk22
  have hv2 : FSl H18 0 bv lv s1 := hv.keepR fun c hc x hx => kk22.row hx (hbv c hc).1 (by have := hbv c hc; omega) (by have := hbv c hc; omega)
  refine o_cl rfl rfl (by simp only [evs, ev, envOf, val_set, ofValue, ofCell, ↓reduceIte, Nat.reduceEqDiff] <;> rfl) rfl (same_two ho (v := .mk kv nv lv) W18 (.mk _ _ _ _ hv2.sa) (.mk _ _ _ _ hst2)) rfl rfl ?_; rintro _ H23 ⟨rfl, X23⟩
  have W23 := X23.wf; have E23 := E18.trans X23
  have A18 := X23.keep _ _ A18
  have A1 := X23.keep _ _ A1
  have A2 := X23.keep _ _ A2
  have A3 := X23.keep _ _ A3
  have A7 := X23.keep _ _ A7
  have n23 := X23.n
  refine o_rd (r_assign (by simp only [ev, envOf, val_set, ofValue, ofCell, ↓reduceIte, Nat.reduceEqDiff] <;> rfl)) rfl rfl ?_
  refine o_nil ?_
  have kk24 := kk22.trans WS no22 nw22 (K3.ofExt X23)
  have no24 := (no22).trans Nw.refl kk22.n; have nw24 := (nw22).trans Nw.refl kk22.n; have hkn24 := kk24.n
  have hOf := ((Own.keep (Oo16.other K17 Ap16) fun x hx _ => K18.own hx (by omega)).ext X23)
  have hWf := ((Own.keep O17 fun x hx _ => K18.own hx (by omega)).ext X23)
  obtain ⟨ws, hwn, hwr, hwt⟩ := hPA.ft (by omega)
  have hwf := ((FT.keepR (FT.keepR (hwt.ext X16) fun c hc x hx => Keeps.at K17 hx (by have := hwr c hc; omega) rfl) fun c hc x hx => K18.own hx (by have := hwr c hc; omega)).ext X23)
  have hvf : FSl H23 0 bv lv s1 := hv.keepR fun c hc x hx => kk24.row hx (hbv c hc).1 (by have := hbv c hc; omega) (by have := hbv c hc; omega)
  refine w_ret ⟨.inr rfl, rfl, .bool (true), (show resultA Try.prog [.tmp 6] _ = _ by simp only [resultA, resultsA, envOf, val_set, ↓reduceIte, Nat.reduceEqDiff, Option.map_some] <;> rfl), ?_⟩
  try dsimp only
  refine ⟨rfl, H3.n, none, H15.n, none, ws, ⟨_, _, _, _, _, _, A18, hOf, hWf, Ap16, by omega, by omega, FL.one (.mk _ _ _ _ _ hvf), FL.one hwf, ?_, ?_⟩, (fun c hc => by have := hwr c hc; omega), kk24, no24, nw24, hNN4, hNN16, E23⟩
  · exact List.nodup_append.2 ⟨hbn, hwn, fun x hx y hy => by have := hbv x hx; have := hwr y hy; omega⟩
  · intro c hc; rcases List.mem_append.1 hc with hc | hc <;> first | (have := hbv c hc; omega) | (have := hwr c hc; omega)
set_option maxRecDepth 100000 in
set_option maxHeartbeats 4000000 in
theorem keep_more (ho : NoOrcBut [9, 35, 36] orc) {H0 HS : AH} (W0 : Wf H0) (WS : Wf HS) (ES : Ext H0 HS) (hb bo bw oo cpo ow cpw : Nat) (fo fw : Option Nat) (L : List V) (co cw : List AV) (Fo Fw : List Nat) (hb0 : H0.n ≤ hb) (hNo : New H0 bo fo) (hNw : New H0 bw fw) (A0 : HS.at hb = some (.row [.sl (.mt bo) oo L.length cpo, .sl (.mt bw) ow L.length cpw] 41 false none)) (hO : Own HS 24 3 (.sl (.mt bo) oo L.length cpo) L.length co bo fo) (hW : Own HS 24 3 (.sl (.mt bw) ow L.length cpw) L.length cw bw fw) (hAp : Apart bo fo bw fw) (hbo : bo ≠ hb) (hbw : bw ≠ hb) (hL1 : FL HS 0 Fo L co) (hL2 : FL HS 1 Fw L cw) (hbr : ∀ c ∈ Fo ++ Fw, c ≠ hb ∧ c ≠ bo ∧ c ≠ bw ∧ c < HS.n) (hLn : L.length ≤ 1000) (kv nv : Int) (lv : List V) (s1 s2 : AV) (bv : List Nat) (hv : FSl HS 0 bv lv s1) (hst : ∀ H2, K3 hb bo fo bw fw HS H2 → SA H2 lv s2) (hcv : (V.mk kv nv lv).cnt ≤ 1000000) (hbn : ((Fo ++ Fw) ++ bv).Nodup) (hbv : ∀ c ∈ bv, c ≠ hb ∧ c ≠ bo ∧ c ≠ bw ∧ c < HS.n) : Fin Try.prog orc 31 [.ptr (.mt (hb)) (0), .agg [.int .i64 (kv), .int .i64 (nv), s1], .agg [.int .i64 (kv), .int .i64 (nv), s2]] HS (fun r H' => r = .bool true ∧ ∃ bo' fo' bw' fw' ws, BK H' hb bo' fo' bw' fw' (L ++ [.mk kv nv lv]) (Fo ++ bv) (Fw ++ ws) ∧ (∀ c ∈ ws, HS.n ≤ c) ∧ K3 hb bo fo bw fw HS H' ∧ Nw HS bo fo bo' fo' ∧ Nw HS bw fw bw' fw' ∧ New H0 bo' fo' ∧ New H0 bw' fw' ∧ Ext H0 H') := by
  have E0 := ES
  have hbl := WS.lt A0; have hol := hO.lt WS; have hwl := hW.lt WS; have hNo1 := hNo.1; have hNw1 := hNw.1
  refine fin_of Try.func31 rfl (by rw [Try.ntmps31]; simp) (ho _ rfl _ _) ?_
  rw [Try.ntmps31]
  refine w_seq ?_
  refine w_region ?_
  refine o_nw WS (a_box (by simp only [ev, envOf, val_set, ofValue, ofCell, ↓reduceIte, Nat.reduceEqDiff] <;> rfl)) rfl rfl rfl (by simp) ?_; intro H1 n1 W1 X1 A1
  have A1 : H1.at HS.n = some (.row [.int .i64 (kv), .int .i64 (nv), s1] 24 false none) := A1
  have E1 := E0.trans X1
  have g1 : H0.n ≤ HS.n := E0.n
  have A0 := X1.keep _ _ A0
  refine o_nw W1 (a_box (by simp only [ev, envOf, val_set, ofValue, ofCell, ↓reduceIte, Nat.reduceEqDiff] <;> rfl)) rfl rfl rfl (by simp) ?_; intro H2 n2 W2 X2 A2
  have A2 : H2.at H1.n = some (.row [.int .i64 (kv), .int .i64 (nv), s2] 24 false none) := A2
  have E2 := E1.trans X2
  have g2 : H0.n ≤ H1.n := E1.n
  have A0 := X2.keep _ _ A0
  have A1 := X2.keep _ _ A1
  refine o_rd (r_assign (by simp only [ev, envOf, val_set, ofValue, ofCell, ↓reduceIte, Nat.reduceEqDiff] <;> rfl)) rfl rfl ?_
  refine o_nil ?_
  refine w_seq ?_
  refine w_draw2 (ms := [0, 1, 3, 7, 0, 15, 0, 127, 255, 511, 255, 1279, 3327]) (ord := [0, 1, 2, 3, 4, 5, 6, 7, 8, 10, 11, 9, 12]) (by kernel_rfl) (by kernel_rfl) (by kernel_rfl) (by kernel_rfl) ?_
  refine d_rd rfl (r_move (by simp only [ev, envOf, val_set, ofValue, ofCell, ↓reduceIte, Nat.reduceEqDiff] <;> rfl)) rfl rfl ?_
  refine d_rd rfl (r_nilCheck (by simp only [ev, envOf, val_set, ofValue, ofCell, ↓reduceIte, Nat.reduceEqDiff] <;> rfl)) rfl rfl ?_
  refine d_rd rfl (r_fieldAddr Ty.fo41_0 (by simp only [ev, envOf, val_set, ofValue, ofCell, ↓reduceIte, Nat.reduceEqDiff] <;> rfl)) rfl rfl ?_
  refine d_rd rfl (r_load1 (v := .sl (.mt bo) (oo) (L.length) cpo) Ty.agg22 (by simp only [ev, envOf, val_set, ofValue, ofCell, ↓reduceIte, Nat.reduceEqDiff] <;> rfl) (read_mt A0 (Nat.le_of_ble_eq_true rfl))) rfl rfl ?_
  refine d_rd rfl (r_loadN (cs := [.int .i64 (kv), .int .i64 (nv), s1]) Ty.agg24 Ty.csz24 (by simp only [ev, envOf, val_set, ofValue, ofCell, ↓reduceIte, Nat.reduceEqDiff] <;> rfl) (read_mt A1 (Nat.le_of_ble_eq_true rfl))) rfl rfl ?_
  refine d_rd rfl (r_len (n := L.length) Try.underlying22 (by simp only [ev, envOf, val_set, ofValue, ofCell, ↓reduceIte, Nat.reduceEqDiff] <;> rfl) rfl) rfl rfl ?_
  refine d_nw rfl W2 (a_build1 Try.underlying22 Ty.csz24 Ty.zero24 rfl (by simp only [ev, envOf, val_set, ofValue, ofCell, ↓reduceIte, Nat.reduceEqDiff] <;> rfl) rfl (by decide)) rfl rfl rfl (by simp) ?_; intro H3 n3 W3 X3 A3
  have A3 : H3.at H2.n = some (.row [.int .i64 0, .int .i64 0, .nils] 24 false none) := A3
  have E3 := E2.trans X3
  have A0 := X3.keep _ _ A0
  have A1 := X3.keep _ _ A1
  have A2 := X3.keep _ _ A2
  refine ⟨re_same (r_len (n := L.length) Try.underlying22 (by simp only [ev, envOf, val_set, ofValue, ofCell, ↓reduceIte, Nat.reduceEqDiff] <;> rfl) rfl) (re_same (r_loadN (cs := [.int .i64 (kv), .int .i64 (nv), s1]) Ty.agg24 Ty.csz24 (by simp only [ev, envOf, val_set, ofValue, ofCell, ↓reduceIte, Nat.reduceEqDiff] <;> rfl) (read_mt A1 (Nat.le_of_ble_eq_true rfl))) (re_same (r_load1 (v := .sl (.mt bo) (oo) (L.length) cpo) Ty.agg22 (by simp only [ev, envOf, val_set, ofValue, ofCell, ↓reduceIte, Nat.reduceEqDiff] <;> rfl) (read_mt A0 (Nat.le_of_ble_eq_true rfl))) (re_same (r_fieldAddr Ty.fo41_0 (by simp only [ev, envOf, val_set, ofValue, ofCell, ↓reduceIte, Nat.reduceEqDiff] <;> rfl)) (re_same (r_nilCheck (by simp only [ev, envOf, val_set, ofValue, ofCell, ↓reduceIte, Nat.reduceEqDiff] <;> rfl)) (re_same (r_move (by simp only [ev, envOf, val_set, ofValue, ofCell, ↓reduceIte, Nat.reduceEqDiff] <;> rfl)) (re_nil)))))), ?_⟩
  have Om4 := (((hO.ext X1).ext X2).ext X3)
  have Oo4 := (((hW.ext X1).ext X2).ext X3)
  refine d_apO rfl W3 Try.underlying22 Try.underlying22 rfl Ty.csz24 Ty.byt24 Ty.zero24 rfl (by simp only [ev, envOf, val_set, ofValue, ofCell, ↓reduceIte, Nat.reduceEqDiff] <;> rfl) (by simp only [ev, envOf, val_set, ofValue, ofCell, ↓reduceIte, Nat.reduceEqDiff] <;> rfl) Om4 (src_fresh (n := 1) A3 rfl) rfl rfl (by omega) rfl rfl ?_; intro s4 H4 b4 f4 O4 W4 l4 u4 p4 q4 K4
  have E4 := Ext.keeps W0 E3 hNo K4 l4 W4
  have hNN4 := hNo.step E3.n p4 q4
  have Ap4 := (hAp).step (Oo4.lt W3) (fun f hf => Oo4.famlt W3 hf) p4 q4
  replace Oo4 := Oo4.other K4 (hAp).symm
  have A0 := K4.at A0 (by omega) rfl
  have A1 := K4.at A1 (by omega) rfl
  have A2 := K4.at A2 (by omega) rfl
  have A3 := K4.at A3 (by omega) rfl
  obtain ⟨oo4, cp4, rfl, O4⟩ := own_open O4
  have hln4 : H3.n ≤ H4.n := by omega
  refine ⟨re_forcedL (M := 127) (I := 5) rfl rfl (by decide) (re_forcedL (M := 127) (I := 4) rfl rfl (by decide) (re_forcedL (M := 127) (I := 3) rfl rfl (by decide) (re_forcedL (M := 127) (I := 2) rfl rfl (by decide) (re_forcedL (M := 127) (I := 1) rfl rfl (by decide) (re_forcedL (M := 127) (I := 0) rfl rfl (by decide) (re_nil)))))), ?_⟩
  refine d_rd rfl (r_indexAddr Try.underlying22 Ty.csz24 (by simp only [ev, envOf, val_set, ofValue, ofCell, ↓reduceIte, Nat.reduceEqDiff] <;> rfl) (by simp only [ev, envOf, val_set, ofValue, ofCell, ↓reduceIte, Nat.reduceEqDiff] <;> rfl) (by omega)) rfl rfl ?_
  refine d_rd rfl (r_nilCheck (by simp only [ev, envOf, val_set, ofValue, ofCell, ↓reduceIte, Nat.reduceEqDiff] <;> rfl)) rfl rfl ?_
  refine d_rd rfl (r_fieldAddr Ty.fo41_0 (by simp only [ev, envOf, val_set, ofValue, ofCell, ↓reduceIte, Nat.reduceEqDiff] <;> rfl)) rfl rfl ?_
  refine d_stO rfl W4 O4 (j := L.length) (by omega) (by simp only [ev, envOf, val_set, ofValue, ofCell, ↓reduceIte, Nat.reduceEqDiff] <;> rfl) (by simp only [ev, envOf, val_set, ofValue, ofCell, ↓reduceIte, Nat.reduceEqDiff] <;> rfl) Ty.csz24 rfl (by exact ones3 (SA.one' hv.sa)) rfl rfl ?_; intro H5 n5 W5 O5 K5
  replace O5 := Own.cong O5 (cs' := co ++ [.int .i64 (kv), .int .i64 (nv), s1]) (splice_end (by have := hO.len; omega) rfl)
  have E5 := Ext.keeps W0 E4 hNN4 K5 (by omega) W5
  have A0 := K5.at A0 (by omega) rfl
  have A1 := K5.at A1 (by omega) rfl
  have A2 := K5.at A2 (by omega) rfl
  have A3 := K5.at A3 (by omega) rfl
  refine ⟨re_same (r_fieldAddr Ty.fo41_0 (by simp only [ev, envOf, val_set, ofValue, ofCell, ↓reduceIte, Nat.reduceEqDiff] <;> rfl)) (re_same (r_nilCheck (by simp only [ev, envOf, val_set, ofValue, ofCell, ↓reduceIte, Nat.reduceEqDiff] <;> rfl)) (re_forcedL (M := 511) (I := 8) rfl rfl (by decide) (re_forcedL (M := 511) (I := 5) rfl rfl (by decide) (re_forcedL (M := 511) (I := 4) rfl rfl (by decide) (re_forcedL (M := 511) (I := 3) rfl rfl (by decide) (re_forcedL (M := 511) (I := 2) rfl rfl (by decide) (re_forcedL (M := 511) (I := 1) rfl rfl (by decide) (re_forcedL (M := 511) (I := 0) rfl rfl (by decide) (re_nil))))))))), ?_⟩
  refine d_st rfl W5 (by simp only [ev, envOf, val_set, ofValue, ofCell, ↓reduceIte, Nat.reduceEqDiff] <;> rfl) (by simp only [ev, envOf, val_set, ofValue, ofCell, ↓reduceIte, Nat.reduceEqDiff] <;> rfl) A0 Ty.csz22 rfl (Nat.le_of_ble_eq_true rfl) (by first | rfl | exact ones3 (SA.one' hv.sa)) rfl rfl ?_; intro H6 n6 W6 A6 K6
  have A6 : H6.at hb = some (.row [.sl (.mt (b4)) (oo4) (L.length + 1) cp4, .sl (.mt bw) (ow) (L.length) cpw] 41 false none) := A6
  have E6 := Ext.put W0 E5 (by have := E5.n; omega) K6 n6 W6
  have A1 := K6.own A1 (by omega)
  have A2 := K6.own A2 (by omega)
  have A3 := K6.own A3 (by omega)
  refine ⟨re_forcedL (M := 3327) (I := 11) rfl rfl (by decide) (re_forcedL (M := 3327) (I := 10) rfl rfl (by decide) (re_same (r_indexAddr Try.underlying22 Ty.csz24 (by simp only [ev, envOf, val_set, ofValue, ofCell, ↓reduceIte, Nat.reduceEqDiff] <;> rfl) (by simp only [ev, envOf, val_set, ofValue, ofCell, ↓reduceIte, Nat.reduceEqDiff] <;> rfl) (by omega)) (re_forcedL (M := 3327) (I := 5) rfl rfl (by decide) (re_forcedL (M := 3327) (I := 4) rfl rfl (by decide) (re_forcedL (M := 3327) (I := 3) rfl rfl (by decide) (re_forcedL (M := 3327) (I := 2) rfl rfl (by decide) (re_forcedL (M := 3327) (I := 1) rfl rfl (by decide) (re_forcedL (M := 3327) (I := 0) rfl rfl (by decide) (re_nil))))))))), ?_⟩
  refine d_nil ⟨apart2_of (pre := [0, 1, 2, 3, 4, 5, 6, 7, 8, 10, 11]) (i := 9) (j := 12) rfl rfl rfl rfl rfl (by simp only [ev, envOf, val_set, ofValue, ofCell, ↓reduceIte, Nat.reduceEqDiff] <;> rfl) (by simp only [ev, envOf, val_set, ofValue, ofCell, ↓reduceIte, Nat.reduceEqDiff] <;> rfl) (by omega), ?_⟩
  refine w_seq ?_
  refine w_draw2 (ms := [0, 1, 3, 7, 0, 16, 15, 0, 255, 511, 1023, 511, 2559, 6655]) (ord := [0, 1, 2, 3, 4, 6, 7, 5, 8, 9, 11, 12, 10, 13]) (by kernel_rfl) (by kernel_rfl) (by kernel_rfl) (by kernel_rfl) ?_
  refine d_rd rfl (r_move (by simp only [ev, envOf, val_set, ofValue, ofCell, ↓reduceIte, Nat.reduceEqDiff] <;> rfl)) rfl rfl ?_
  refine d_rd rfl (r_nilCheck (by simp only [ev, envOf, val_set, ofValue, ofCell, ↓reduceIte, Nat.reduceEqDiff] <;> rfl)) rfl rfl ?_
  refine d_rd rfl (r_fieldAddr Ty.fo41_1 (by simp only [ev, envOf, val_set, ofValue, ofCell, ↓reduceIte, Nat.reduceEqDiff] <;> rfl)) rfl rfl ?_
  refine d_rd rfl (r_load1 (v := .sl (.mt bw) (ow) (L.length) cpw) Ty.agg22 (by simp only [ev, envOf, val_set, ofValue, ofCell, ↓reduceIte, Nat.reduceEqDiff] <;> rfl) (read_mt A6 (Nat.le_of_ble_eq_true rfl))) rfl rfl ?_
  refine d_rd rfl (r_loadN (cs := [.int .i64 (kv), .int .i64 (nv), s2]) Ty.agg24 Ty.csz24 (by simp only [ev, envOf, val_set, ofValue, ofCell, ↓reduceIte, Nat.reduceEqDiff] <;> rfl) (read_mt A2 (Nat.le_of_ble_eq_true rfl))) rfl rfl ?_
  refine d_rd rfl (r_len (n := L.length) Try.underlying22 (by simp only [ev, envOf, val_set, ofValue, ofCell, ↓reduceIte, Nat.reduceEqDiff] <;> rfl) rfl) rfl rfl ?_
  refine d_nw rfl W6 (a_build1 Try.underlying22 Ty.csz24 Ty.zero24 rfl (by simp only [ev, envOf, val_set, ofValue, ofCell, ↓reduceIte, Nat.reduceEqDiff] <;> rfl) rfl (by decide)) rfl rfl rfl (by simp) ?_; intro H7 n7 W7 X7 A7
  have A7 : H7.at H6.n = some (.row [.int .i64 0, .int .i64 0, .nils] 24 false none) := A7
  have E7 := E6.trans X7
  have A6 := X7.keep _ _ A6
  have A1 := X7.keep _ _ A1
  have A2 := X7.keep _ _ A2
  have A3 := X7.keep _ _ A3
  refine ⟨re_same (r_len (n := L.length) Try.underlying22 (by simp only [ev, envOf, val_set, ofValue, ofCell, ↓reduceIte, Nat.reduceEqDiff] <;> rfl) rfl) (re_same (r_loadN (cs := [.int .i64 (kv), .int .i64 (nv), s2]) Ty.agg24 Ty.csz24 (by simp only [ev, envOf, val_set, ofValue, ofCell, ↓reduceIte, Nat.reduceEqDiff] <;> rfl) (read_mt A2 (Nat.le_of_ble_eq_true rfl))) (re_same (r_load1 (v := .sl (.mt bw) (ow) (L.length) cpw) Ty.agg22 (by simp only [ev, envOf, val_set, ofValue, ofCell, ↓reduceIte, Nat.reduceEqDiff] <;> rfl) (read_mt A6 (Nat.le_of_ble_eq_true rfl))) (re_same (r_fieldAddr Ty.fo41_1 (by simp only [ev, envOf, val_set, ofValue, ofCell, ↓reduceIte, Nat.reduceEqDiff] <;> rfl)) (re_same (r_nilCheck (by simp only [ev, envOf, val_set, ofValue, ofCell, ↓reduceIte, Nat.reduceEqDiff] <;> rfl)) (re_same (r_move (by simp only [ev, envOf, val_set, ofValue, ofCell, ↓reduceIte, Nat.reduceEqDiff] <;> rfl)) (re_nil)))))), ?_⟩
  have kk8 := (K3.refl (hb := hb) (b := bo) (f := fo) (b' := bw) (f' := fw) WS).trans WS (Nw.refl (b := bo) (f := fo)) (Nw.refl (b := bw) (f := fw)) (K3.ofExt X1)
  have no8 := ((Nw.refl (b := bo) (f := fo))).trans Nw.refl (K3.refl (hb := hb) (b := bo) (f := fo) (b' := bw) (f' := fw) WS).n; have nw8 := ((Nw.refl (b := bw) (f := fw))).trans Nw.refl (K3.refl (hb := hb) (b := bo) (f := fo) (b' := bw) (f' := fw) WS).n; have hkn8 := kk8.n
  have kk9 := kk8.trans WS no8 nw8 (K3.ofExt X2)
  have no9 := (no8).trans Nw.refl kk8.n; have nw9 := (nw8).trans Nw.refl kk8.n; have hkn9 := kk9.n
  have kk10 := kk9.trans WS no9 nw9 (K3.ofExt X3)
  have no10 := (no9).trans Nw.refl kk9.n; have nw10 := (nw9).trans Nw.refl kk9.n; have hkn10 := kk10.n
  have kk11 := kk10.trans WS no10 nw10 (K3.first K4 l4 W4)
  have no11 := (no10).trans (Nw.step p4 q4) kk10.n; have nw11 := (nw10).trans Nw.refl kk10.n; have hkn11 := kk11.n
  have kk12 := kk11.trans WS no11 nw11 (K3.first K5 (by omega) W5)
  have no12 := (no11).trans Nw.refl kk11.n; have nw12 := (nw11).trans Nw.refl kk11.n; have hkn12 := kk12.n
  have kk13 := kk12.trans WS no12 nw12 (K3.own K6 n6 W6)
  have no13 := (no12).trans Nw.refl kk12.n; have nw13 := (nw12).trans Nw.refl kk12.n; have hkn13 := kk13.n
  have kk14 := kk13.trans WS no13 nw13 (K3.ofExt X7)
  have no14 := (no13).trans Nw.refl kk13.n; have nw14 := (nw13).trans Nw.refl kk13.n; have hkn14 := kk14.n
  have hst1 := hst _ kk14
  refine d_cl rfl rfl rfl (by simp only [evs, ev, envOf, val_set, ofValue, ofCell, ↓reduceIte, Nat.reduceEqDiff] <;> rfl) rfl (ownL_fin ho (.mk kv nv lv) hcv _ W7 _ (.mk _ _ _ _ hst1)) rfl rfl ?_; rintro _ H15 ⟨aw, rfl, hPA, X15⟩
  have W15 := X15.wf; have E15 := E7.trans X15
  have A6 := X15.keep _ _ A6
  have A1 := X15.keep _ _ A1
  have A2 := X15.keep _ _ A2
  have A3 := X15.keep _ _ A3
  have A7 := X15.keep _ _ A7
  have n15 := X15.n
  refine ⟨re_same (r_len (n := L.length) Try.underlying22 (by simp only [ev, envOf, val_set, ofValue, ofCell, ↓reduceIte, Nat.reduceEqDiff] <;> rfl) rfl) (re_forcedL (M := 16) (I := 4) rfl rfl (by decide) (re_same (r_load1 (v := .sl (.mt bw) (ow) (L.length) cpw) Ty.agg22 (by simp only [ev, envOf, val_set, ofValue, ofCell, ↓reduceIte, Nat.reduceEqDiff] <;> rfl) (read_mt A6 (Nat.le_of_ble_eq_true rfl))) (re_same (r_fieldAddr Ty.fo41_1 (by simp only [ev, envOf, val_set, ofValue, ofCell, ↓reduceIte, Nat.reduceEqDiff] <;> rfl)) (re_same (r_nilCheck (by simp only [ev, envOf, val_set, ofValue, ofCell, ↓reduceIte, Nat.reduceEqDiff] <;> rfl)) (re_same (r_move (by simp only [ev, envOf, val_set, ofValue, ofCell, ↓reduceIte, Nat.reduceEqDiff] <;> rfl)) (re_nil)))))), ?_⟩
  have Om16 := (((Own.keep (Oo4.other K5 Ap4.symm) fun x hx _ => K6.own hx (by omega)).ext X7).ext X15)
  have Oo16 := (((Own.keep O5 fun x hx _ => K6.own hx (by omega)).ext X7).ext X15)
  refine d_apO rfl W15 Try.underlying22 Try.underlying22 rfl Ty.csz24 Ty.byt24 Ty.zero24 rfl (by simp only [ev, envOf, val_set, ofValue, ofCell, ↓reduceIte, Nat.reduceEqDiff] <;> rfl) (by simp only [ev, envOf, val_set, ofValue, ofCell, ↓reduceIte, Nat.reduceEqDiff] <;> rfl) Om16 (src_fresh (n := 1) A7 rfl) rfl rfl (by omega) rfl rfl ?_; intro s16 H16 b16 f16 O16 W16 l16 u16 p16 q16 K16
  have E16 := Ext.keeps W0 E15 hNw K16 l16 W16
  have hNN16 := hNw.step E15.n p16 q16
  have Ap16 := (Ap4.symm).step (Oo16.lt W15) (fun f hf => Oo16.famlt W15 hf) p16 q16
  replace Oo16 := Oo16.other K16 (Ap4.symm).symm
  have A6 := K16.at A6 (by omega) rfl
  have A1 := K16.at A1 (by omega) rfl
  have A2 := K16.at A2 (by omega) rfl
  have A3 := K16.at A3 (by omega) rfl
  have A7 := K16.at A7 (by omega) rfl
  obtain ⟨oo16, cp16, rfl, O16⟩ := own_open O16
  have hln16 : H15.n ≤ H16.n := by omega
  refine ⟨re_forcedL (M := 255) (I := 6) rfl rfl (by decide) (re_forcedL (M := 255) (I := 4) rfl rfl (by decide) (re_forcedL (M := 255) (I := 3) rfl rfl (by decide) (re_forcedL (M := 255) (I := 2) rfl rfl (by decide) (re_forcedL (M := 255) (I := 1) rfl rfl (by decide) (re_forcedL (M := 255) (I := 0) rfl rfl (by decide) (re_nil)))))), ?_⟩
  refine d_rd rfl (r_indexAddr Try.underlying22 Ty.csz24 (by simp only [ev, envOf, val_set, ofValue, ofCell, ↓reduceIte, Nat.reduceEqDiff] <;> rfl) (by simp only [ev, envOf, val_set, ofValue, ofCell, ↓reduceIte, Nat.reduceEqDiff] <;> rfl) (by omega)) rfl rfl ?_
  refine d_rd rfl (r_nilCheck (by simp only [ev, envOf, val_set, ofValue, ofCell, ↓reduceIte, Nat.reduceEqDiff] <;> rfl)) rfl rfl ?_
  refine d_rd rfl (r_fieldAddr Ty.fo41_1 (by simp only [ev, envOf, val_set, ofValue, ofCell, ↓reduceIte, Nat.reduceEqDiff] <;> rfl)) rfl rfl ?_
  refine d_stO rfl W16 O16 (j := L.length) (by omega) (by simp only [ev, envOf, val_set, ofValue, ofCell, ↓reduceIte, Nat.reduceEqDiff] <;> rfl) (by simp only [ev, envOf, val_set, ofValue, ofCell, ↓reduceIte, Nat.reduceEqDiff] <;> rfl) Ty.csz24 (by exact hPA.len) (by exact hPA.va.ones) rfl rfl ?_; intro H17 n17 W17 O17 K17
  replace O17 := Own.cong O17 (cs' := cw ++ aw) (splice_end (by have := hW.len; omega) (by rw [show (AV.agg aw).cells = aw from rfl, hPA.len]; rfl))
  have E17 := Ext.keeps W0 E16 hNN16 K17 (by omega) W17
  have A6 := K17.at A6 (by omega) rfl
  have A1 := K17.at A1 (by omega) rfl
  have A2 := K17.at A2 (by omega) rfl
  have A3 := K17.at A3 (by omega) rfl
  have A7 := K17.at A7 (by omega) rfl
  refine ⟨re_same (r_fieldAddr Ty.fo41_1 (by simp only [ev, envOf, val_set, ofValue, ofCell, ↓reduceIte, Nat.reduceEqDiff] <;> rfl)) (re_same (r_nilCheck (by simp only [ev, envOf, val_set, ofValue, ofCell, ↓reduceIte, Nat.reduceEqDiff] <;> rfl)) (re_forcedL (M := 1023) (I := 9) rfl rfl (by decide) (re_forcedL (M := 1023) (I := 6) rfl rfl (by decide) (re_forcedL (M := 1023) (I := 4) rfl rfl (by decide) (re_forcedL (M := 1023) (I := 3) rfl rfl (by decide) (re_forcedL (M := 1023) (I := 2) rfl rfl (by decide) (re_forcedL (M := 1023) (I := 1) rfl rfl (by decide) (re_forcedL (M := 1023) (I := 0) rfl rfl (by decide) (re_nil))))))))), ?_⟩
  refine d_st rfl W17 (by simp only [ev, envOf, val_set, ofValue, ofCell, ↓reduceIte, Nat.reduceEqDiff] <;> rfl) (by simp only [ev, envOf, val_set, ofValue, ofCell, ↓reduceIte, Nat.reduceEqDiff] <;> rfl) A6 Ty.csz22 rfl (Nat.le_of_ble_eq_true rfl) (by first | rfl | exact ones3 (SA.one' hv.sa)) rfl rfl ?_; intro H18 n18 W18 A18 K18
  have A18 : H18.at hb = some (.row [.sl (.mt (b4)) (oo4) (L.length + 1) cp4, .sl (.mt (b16)) (oo16) (L.length + 1) cp16] 41 false none) := A18
  have E18 := Ext.put W0 E17 (by have := E17.n; omega) K18 n18 W18
  have A1 := K18.own A1 (by omega)
  have A2 := K18.own A2 (by omega)
  have A3 := K18.own A3 (by omega)
  have A7 := K18.own A7 (by omega)
  refine ⟨re_forcedL (M := 6655) (I := 12) rfl rfl (by decide) (re_forcedL (M := 6655) (I := 11) rfl rfl (by decide) (re_same (r_indexAddr Try.underlying22 Ty.csz24 (by simp only [ev, envOf, val_set, ofValue, ofCell, ↓reduceIte, Nat.reduceEqDiff] <;> rfl) (by simp only [ev, envOf, val_set, ofValue, ofCell, ↓reduceIte, Nat.reduceEqDiff] <;> rfl) (by omega)) (re_forcedL (M := 6655) (I := 6) rfl rfl (by decide) (re_forcedL (M := 6655) (I := 4) rfl rfl (by decide) (re_forcedL (M := 6655) (I := 3) rfl rfl (by decide) (re_forcedL (M := 6655) (I := 2) rfl rfl (by decide) (re_forcedL (M := 6655) (I := 1) rfl rfl (by decide) (re_forcedL (M := 6655) (I := 0) rfl rfl (by decide) (re_nil))))))))), ?_⟩
  refine d_nil ⟨apart2_of (pre := [0, 1, 2, 3, 4, 6, 7, 5, 8, 9, 11, 12]) (i := 10) (j := 13) rfl rfl rfl rfl rfl (by simp only [ev, envOf, val_set, ofValue, ofCell, ↓reduceIte, Nat.reduceEqDiff] <;> rfl) (by simp only [ev, envOf, val_set, ofValue, ofCell, ↓reduceIte, Nat.reduceEqDiff] <;> rfl) (by omega), ?_⟩
  refine w_seq ?_
  refine w_region ?_
  refine o_rd (r_loadN (cs := [.int .i64 (kv), .int .i64 (nv), s1]) Ty.agg24 Ty.csz24 (by simp only [ev, envOf, val_set, ofValue, ofCell, ↓reduceIte, Nat.reduceEqDiff] <;> rfl) (read_mt A1 (Nat.le_of_ble_eq_true rfl))) rfl rfl ?_
  refine o_rd (r_loadN (cs := [.int .i64 (kv), .int .i64 (nv), s2]) Ty.agg24 Ty.csz24 (by simp only [ev, envOf, val_set, ofValue, ofCell, ↓reduceIte, Nat.reduceEqDiff] <;> rfl) (read_mt A2 (Nat.le_of_ble_eq_true rfl))) rfl rfl ?_
  have kk19 := kk14.trans WS no14 nw14 (K3.ofExt X15)
  have no19 := (no14).trans Nw.refl kk14.n; have nw19 := (nw14).trans Nw.refl kk14.n; have hkn19 := kk19.n
  have kk20 := kk19.trans WS no19 nw19 (K3.second K16 l16 W16)
  have no20 := (no19).trans Nw.refl kk19.n; have nw20 := (nw19).trans (Nw.step p16 q16) kk19.n; have hkn20 := kk20.n
  have kk21 := kk20.trans WS no20 nw20 (K3.second K17 (by omega) W17)
  have no21 := (no20).trans Nw.refl kk20.n; have nw21 := (nw20).trans Nw.refl kk20.n; have hkn21 := kk21.n
  have kk22 := kk21.trans WS no21 nw21 (K3.own K18 n18 W18)
  have no22 := (no21).trans Nw.refl kk21.n; have nw22 := (nw21).trans Nw.refl kk21.n; have hkn22 := kk22.n
  have hst2 := hst _ kk22
  have hv2 : FSl H18 0 bv lv s1 := hv.keepR fun c hc x hx => kk22.row hx (hbv c hc).1 (by have := hbv c hc; omega) (by have := hbv c hc; omega)
  refine o_cl rfl rfl (by simp only [evs, ev, envOf, val_set, ofValue, ofCell, ↓reduceIte, Nat.reduceEqDiff] <;> rfl) rfl (same_two ho (v := .mk kv nv lv) W18 (.mk _ _ _ _ hv2.sa) (.mk _ _ _ _ hst2)) rfl rfl ?_; rintro _ H23 ⟨rfl, X23⟩
  have W23 := X23.wf; have E23 := E18.trans X23
  have A18 := X23.keep _ _ A18
  have A1 := X23.keep _ _ A1
  have A2 := X23.keep _ _ A2
  have A3 := X23.keep _ _ A3
  have A7 := X23.keep _ _ A7
  have n23 := X23.n
  refine o_rd (r_assign (by simp only [ev, envOf, val_set, ofValue, ofCell, ↓reduceIte, Nat.reduceEqDiff] <;> rfl)) rfl rfl ?_
  refine o_nil ?_
  have kk24 := kk22.trans WS no22 nw22 (K3.ofExt X23)
  have no24 := (no22).trans Nw.refl kk22.n; have nw24 := (nw22).trans Nw.refl kk22.n; have hkn24 := kk24.n
  have hOf := ((Own.keep (Oo16.other K17 Ap16.symm) fun x hx _ => K18.own hx (by omega)).ext X23)
  have hWf := ((Own.keep O17 fun x hx _ => K18.own hx (by omega)).ext X23)
  obtain ⟨ws, hwn, hwr, hwt⟩ := hPA.ft (by omega)
  have hwf := ((FT.keepR (FT.keepR (FT.keepR hwt fun c hc x hx => Keeps.at K16 hx (by have := hwr c hc; omega) rfl) fun c hc x hx => Keeps.at K17 hx (by have := hwr c hc; omega) rfl) fun c hc x hx => K18.own hx (by have := hwr c hc; omega)).ext X23)
  have hvf : FSl H23 0 bv lv s1 := hv.keepR fun c hc x hx => kk24.row hx (hbv c hc).1 (by have := hbv c hc; omega) (by have := hbv c hc; omega)
  have hF1 := hL1.keepR fun c hc x hx => kk24.row hx (hbr c (List.mem_append_left _ hc)).1 (by have := hbr c (List.mem_append_left _ hc); omega) (by have := hbr c (List.mem_append_left _ hc); omega)
  have hF2 := hL2.keepR fun c hc x hx => kk24.row hx (hbr c (List.mem_append_right _ hc)).1 (by have := hbr c (List.mem_append_right _ hc); omega) (by have := hbr c (List.mem_append_right _ hc); omega)
  refine w_ret ⟨.inr rfl, rfl, .bool (true), (show resultA Try.prog [.tmp 6] _ = _ by simp only [resultA, resultsA, envOf, val_set, ↓reduceIte, Nat.reduceEqDiff, Option.map_some] <;> rfl), ?_⟩
  try dsimp only
  have hlen : (L ++ [V.mk kv nv lv]).length = L.length + 1 := by simp
  refine ⟨rfl, b4, f4, b16, f16, ws, ?_, (fun c hc => by have := hwr c hc; omega), kk24, no24, nw24, hNN4, hNN16, E23⟩
  unfold BK; rw [hlen]
  refine ⟨_, _, _, _, _, _, A18, hOf, hWf, Ap16.symm, by omega, by omega, hF1.append (FL.one (.mk _ _ _ _ _ hvf)), hF2.append (FL.one hwf), ?_, ?_⟩
  · rw [List.append_assoc] at hbn
    simp only [List.nodup_append, List.mem_append] at hbn ⊢
    grind
  · intro c hc; simp only [List.mem_append] at hc; rcases hc with (hc | hc) | (hc | hc) <;> first | (have := hbv c hc; omega) | (have := hwr c hc; omega) | (have := hbr c (List.mem_append_left _ hc); omega) | (have := hbr c (List.mem_append_right _ hc); omega)
end Go.Proofs.Ytenfjdkeikjhlaa.Vs
