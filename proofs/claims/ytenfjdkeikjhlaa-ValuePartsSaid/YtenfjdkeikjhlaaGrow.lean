/-
  grow: each list of a value grows; they, with what each must read as.
-/
import Derived.Test.YtenfjdkeikjhlaaGrowT
set_option autoImplicit false
set_option linter.unusedVariables false
set_option linter.unusedSimpArgs false
namespace Go.Proofs.Ytenfjdkeikjhlaa.Vs
open Go.VI Go.Proofs
variable {orc : CallF}
def zN (n : Int) : Int := wrapA .i64 (wrapA .i64 (0 - n) - 7000)
theorem srcC_ext {H H' : AH} (E : Ext H H') {e n : Nat} {s : AV} {cs : List AV} (h : srcCells H e s = some (n, cs)) : srcCells H' e s = some (n, cs) := by
  cases s <;> simp only [srcCells] at h ⊢ <;> try exact h
  rename_i l o m c
  cases hr : H.read l o (m * e) with
  | none => rw [hr] at h; cases h
  | some x => rw [hr] at h; rw [E.read hr]; exact h
set_option maxRecDepth 100000 in
set_option maxHeartbeats 4000000 in
theorem grow_step (ho : NoOrcBut [9, 35, 36] orc) {H0 HS : AH} (W0 : Wf H0) (WS : Wf HS) (ES : Ext H0 HS) (n ka ma : Int) (l : List V) (sv : AV) (bs : List Nat) (hv : FSl H0 0 bs l sv) (so0 sw0 : AV) (q0 : Nat) (co0 cw0 : List AV) (bo0 bw0 : Nat) (fo0 fw0 : Option Nat) (Ls0 : List (List V)) (hO0 : Own HS 22 1 so0 q0 co0 bo0 fo0) (hW0 : Own HS 22 1 sw0 q0 cw0 bw0 fw0) (hNo0 : New H0 bo0 fo0) (hNw0 : New H0 bw0 fw0) (hAp0 : Apart bo0 fo0 bw0 fw0) (hG0 : Ls0.length = q0 ∧ GL bo0 fo0 bw0 fw0 HS Ls0 co0 cw0) (hq0 : q0 + (V.mk ka ma l).cnt ≤ 50000000) (ih : ∀ x ∈ l, ∀ (H : AH), Wf H → Ext H0 H → ∀ (n : Int) (bs : List Nat) (a : List AV), FT H0 0 bs x a → ∀ (so sw : AV) (q : Nat) (co cw : List AV) (bo bw : Nat) (fo fw : Option Nat) (Ls : List (List V)), Own H 22 1 so q co bo fo → Own H 22 1 sw q cw bw fw → New H0 bo fo → New H0 bw fw → Apart bo fo bw fw → (Ls.length = q ∧ GL bo fo bw fw H Ls co cw) → q + x.cnt ≤ 50000000 → VI.Fin Try.prog orc 49 [.agg a, .int .i64 n, so, sw] H (fun r H' => ∃ so' sw' co' cw' bo' bw' fo' fw' Ls', r = .tup [so', sw'] ∧ Own H' 22 1 so' (q + x.cnt) co' bo' fo' ∧ Own H' 22 1 sw' (q + x.cnt) cw' bw' fw' ∧ New H0 bo' fo' ∧ New H0 bw' fw' ∧ Apart bo' fo' bw' fw' ∧ (Ls'.length = q + x.cnt ∧ GL bo' fo' bw' fw' H' Ls' co' cw') ∧ K2 bo fo bw fw H H' ∧ Nw H bo fo bo' fo' ∧ Nw H bw fw bw' fw' ∧ Ext H0 H')) : Fin Try.prog orc 49 [.agg [.int .i64 (ka), .int .i64 (ma), sv], .int .i64 (n), so0, sw0] HS (fun r H' => ∃ so' sw' co' cw' bo' bw' fo' fw' Ls', r = .tup [so', sw'] ∧ Own H' 22 1 so' (q0 + (V.mk ka ma l).cnt) co' bo' fo' ∧ Own H' 22 1 sw' (q0 + (V.mk ka ma l).cnt) cw' bw' fw' ∧ New H0 bo' fo' ∧ New H0 bw' fw' ∧ Apart bo' fo' bw' fw' ∧ (Ls'.length = q0 + (V.mk ka ma l).cnt ∧ GL bo' fo' bw' fw' H' Ls' co' cw') ∧ K2 bo0 fo0 bw0 fw0 HS H' ∧ Nw HS bo0 fo0 bo' fo' ∧ Nw HS bw0 fw0 bw' fw' ∧ Ext H0 H') := by
  have E0 := ES
  have hl1 := hv.sa.lenOf; have hbd := hv.sa.bound; have hcl0 := V.len_cnts l; simp only [V.cnt] at hq0
  refine fin_of Try.func49 rfl (by rw [Try.ntmps49]; simp) (ho _ rfl _ _) ?_
  rw [Try.ntmps49]
  refine w_seq ?_
  refine w_region ?_
  refine o_nw WS (a_box (by simp only [ev, envOf, val_set, ofValue, ofCell, ↓reduceIte, Nat.reduceEqDiff] <;> rfl)) rfl rfl rfl (by simp) ?_; intro H1 n1 W1 X1 A1
  have A1 : H1.at HS.n = some (.row [.int .i64 (ka), .int .i64 (ma), sv] 24 false none) := A1
  have E1 := E0.trans X1
  have g1 : H0.n ≤ HS.n := E0.n
  refine o_rd (r_assign (by simp only [ev, envOf, val_set, ofValue, ofCell, ↓reduceIte, Nat.reduceEqDiff] <;> rfl)) rfl rfl ?_
  refine o_rd (r_assign (by simp only [ev, envOf, val_set, ofValue, ofCell, ↓reduceIte, Nat.reduceEqDiff] <;> rfl)) rfl rfl ?_
  refine o_nil ?_
  refine w_seq ?_
  refine w_seq ?_
  refine w_region ?_
  refine o_rd (r_assign (by simp only [ev, envOf, val_set, ofValue, ofCell, ↓reduceIte, Nat.reduceEqDiff] <;> rfl)) rfl rfl ?_
  refine o_nil ?_
  refine w_block ?_
  refine w_loop (fun m s => ∃ (e : Env) (H : AH) (i : Nat) (q : Nat) (so : AV) (sw : AV) (co : List AV) (cw : List AV) (bo : Nat) (bw : Nat) (fo : Option Nat) (fw : Option Nat) (Ls : List (List V)), s = ⟨e, H, []⟩ ∧ e.val 1 = .int .i64 (n) ∧ e.val 2 = so ∧ e.val 3 = sw ∧ e.val 4 = .ptr (.mt (HS.n)) (0) ∧ e.val 8 = .nils ∧ e.val 9 = .nils ∧ e.val 10 = .int .i64 (((i : Nat) : Int)) ∧ Wf H ∧ Ext H0 H ∧ H.at (HS.n) = some (.row [.int .i64 (ka), .int .i64 (ma), sv] 24 false none) ∧ (Own H 22 1 so q co bo fo) ∧ (Own H 22 1 sw q cw bw fw) ∧ (New H0 bo fo) ∧ (New H0 bw fw) ∧ (Apart bo fo bw fw) ∧ (Ls.length = q ∧ GL bo fo bw fw H Ls co cw) ∧ (K2 bo0 fo0 bw0 fw0 HS H) ∧ (Nw HS bo0 fo0 bo fo) ∧ (Nw HS bw0 fw0 bw fw) ∧ (HS.n ≠ bo ∧ HS.n ≠ bw) ∧ (q + V.cnts (l.drop i) = q0 + V.cnts l) ∧ (i + m = l.length)) (l.length) ⟨_, H1, 0, q0, so0, sw0, co0, cw0, bo0, bw0, fo0, fw0, Ls0, rfl, (by simp only [val_set, ↓reduceIte, Nat.reduceEqDiff] <;> rfl), (by simp only [val_set, ↓reduceIte, Nat.reduceEqDiff] <;> rfl), (by simp only [val_set, ↓reduceIte, Nat.reduceEqDiff] <;> rfl), (by simp only [val_set, ↓reduceIte, Nat.reduceEqDiff] <;> rfl), (by simp only [val_set, ↓reduceIte, Nat.reduceEqDiff] <;> rfl), (by simp only [val_set, ↓reduceIte, Nat.reduceEqDiff] <;> rfl), (by simp only [val_set, ↓reduceIte, Nat.reduceEqDiff] <;> rfl), W1, E1, A1, (hO0.ext X1), (hW0.ext X1), hNo0, hNw0, hAp0, ⟨hG0.1, hG0.2.step WS (K2.ofExt X1) Nw.refl Nw.refl⟩, (K2.ofExt X1), Nw.refl, Nw.refl, (by have := hO0.lt WS; have := hW0.lt WS; omega), (by simp), by omega⟩ ?_
  intro m s hi
  obtain ⟨e, H2, i, q, so, sw, co, cw, bo, bw, fo, fw, Ls, rfl, v1, v2, v3, v4, v8, v9, v10, W2, E2, A1, hO, hW, hNo, hNw, hAp, hG, hK, hno, hnw, hlo, hq, him⟩ := hi
  have l2_0 := W2.lt A1
  have hKn := hK.n
  have hbo1 := hO.lt W2; have hbw1 := hW.lt W2
  refine w_seq ?_
  refine w_seq ?_
  refine w_region ?_
  refine o_rd (r_move (by simp only [ev, envOf, val_set, ofValue, ofCell, ↓reduceIte, Nat.reduceEqDiff, v1, v2, v3, v4, v8, v9, v10] <;> rfl)) rfl rfl ?_
  refine o_rd (r_fieldAddr Ty.fo24_2 (by simp only [ev, envOf, val_set, ofValue, ofCell, ↓reduceIte, Nat.reduceEqDiff, v1, v2, v3, v4, v8, v9, v10] <;> rfl)) rfl rfl ?_
  refine o_rd (r_load1 (v := sv) Ty.agg22 (by simp only [ev, envOf, val_set, ofValue, ofCell, ↓reduceIte, Nat.reduceEqDiff, v1, v2, v3, v4, v8, v9, v10] <;> rfl) (read_mt A1 (Nat.le_of_ble_eq_true rfl))) rfl rfl ?_
  refine o_rd (r_len (n := l.length) Try.underlying22 (by simp only [ev, envOf, val_set, ofValue, ofCell, ↓reduceIte, Nat.reduceEqDiff, v1, v2, v3, v4, v8, v9, v10] <;> rfl) hl1) rfl rfl ?_
  refine o_rd (r_lt (a := ((i : Nat) : Int)) (b := ((l.length : Nat) : Int)) (by simp only [ev, envOf, val_set, ofValue, ofCell, ↓reduceIte, Nat.reduceEqDiff, v1, v2, v3, v4, v8, v9, v10] <;> rfl) (by simp only [ev, envOf, val_set, ofValue, ofCell, ↓reduceIte, Nat.reduceEqDiff, v1, v2, v3, v4, v8, v9, v10] <;> rfl)) rfl rfl ?_
  refine o_nil ?_
  refine w_cond (by simp only [ev, envOf, val_set, ofValue, ofCell, ↓reduceIte, Nat.reduceEqDiff, v1, v2, v3, v4, v8, v9, v10] <;> rfl) (fun hc3 => ?_) (fun hc3 => ?_)
  · have hc3 := dec_t hc3
    refine w_skip ?_
    refine w_seq ?_
    refine w_block ?_
    refine w_region ?_
    refine o_rd (r_fieldAddr Ty.fo24_2 (by simp only [ev, envOf, val_set, ofValue, ofCell, ↓reduceIte, Nat.reduceEqDiff, v1, v2, v3, v4, v8, v9, v10] <;> rfl)) rfl rfl ?_
    refine o_rd (r_load1 (v := sv) Ty.agg22 (by simp only [ev, envOf, val_set, ofValue, ofCell, ↓reduceIte, Nat.reduceEqDiff, v1, v2, v3, v4, v8, v9, v10] <;> rfl) (read_mt A1 (Nat.le_of_ble_eq_true rfl))) rfl rfl ?_
    refine o_rd (r_move (by simp only [ev, envOf, val_set, ofValue, ofCell, ↓reduceIte, Nat.reduceEqDiff, v1, v2, v3, v4, v8, v9, v10] <;> rfl)) rfl rfl ?_
    have hi1 : i < l.length := by omega
    obtain ⟨bb, p1, p2, p3, c1, ax, c2, hse, hbe, hb, hc1, hx, hax, _⟩ := hv.focus hi1
    subst hse; subst hbe
    obtain ⟨kx, mx, lx, sx, rfl, hli, hsx⟩ := hx.inv
    have hrx : H0.read (.mt bb) (0 + i * 3) 3 = some [.int .i64 kx, .int .i64 mx, sx] := by rw [read_mt hb (by simp [hc1] <;> omega), Nat.zero_add, ← hc1, List.drop_left, List.take_append_of_le_length (by simp), List.take_of_length_le (by simp)]
    have hcn : V.cnts (l.drop i) = (l[i]).cnt + V.cnts (l.drop (i + 1)) := by rw [List.drop_eq_getElem_cons hi1]; simp only [V.cnts]
    refine o_rd (r_indexAddr Try.underlying22 Ty.csz24 (by simp only [ev, envOf, val_set, ofValue, ofCell, ↓reduceIte, Nat.reduceEqDiff, v1, v2, v3, v4, v8, v9, v10] <;> rfl) (by simp only [ev, envOf, val_set, ofValue, ofCell, ↓reduceIte, Nat.reduceEqDiff, v1, v2, v3, v4, v8, v9, v10] <;> rfl) hi1) rfl rfl ?_
    refine o_rd (r_loadN Ty.agg24 Ty.csz24 (by simp only [ev, envOf, val_set, ofValue, ofCell, ↓reduceIte, Nat.reduceEqDiff, v1, v2, v3, v4, v8, v9, v10] <;> rfl) (E2.read hrx)) rfl rfl ?_
    refine o_rd (r_move (by simp only [ev, envOf, val_set, ofValue, ofCell, ↓reduceIte, Nat.reduceEqDiff, v1, v2, v3, v4, v8, v9, v10] <;> rfl)) rfl rfl ?_
    refine o_rd (r_move (by simp only [ev, envOf, val_set, ofValue, ofCell, ↓reduceIte, Nat.reduceEqDiff, v1, v2, v3, v4, v8, v9, v10] <;> rfl)) rfl rfl ?_
    refine o_rd (r_addW (a := n) (b := ((i : Nat) : Int)) (by simp only [ev, envOf, val_set, ofValue, ofCell, ↓reduceIte, Nat.reduceEqDiff, v1, v2, v3, v4, v8, v9, v10] <;> rfl) (by simp only [ev, envOf, val_set, ofValue, ofCell, ↓reduceIte, Nat.reduceEqDiff, v1, v2, v3, v4, v8, v9, v10] <;> rfl)) rfl rfl ?_
    refine o_rd (r_addW (a := wrapA .i64 (n + ((i : Nat) : Int))) (b := 1) (by simp only [ev, envOf, val_set, ofValue, ofCell, ↓reduceIte, Nat.reduceEqDiff, v1, v2, v3, v4, v8, v9, v10] <;> rfl) (by simp only [ev, envOf, val_set, ofValue, ofCell, ↓reduceIte, Nat.reduceEqDiff, v1, v2, v3, v4, v8, v9, v10] <;> rfl)) rfl rfl ?_
    refine o_rd (r_move (by simp only [ev, envOf, val_set, ofValue, ofCell, ↓reduceIte, Nat.reduceEqDiff, v1, v2, v3, v4, v8, v9, v10] <;> rfl)) rfl rfl ?_
    refine o_rd (r_move (by simp only [ev, envOf, val_set, ofValue, ofCell, ↓reduceIte, Nat.reduceEqDiff, v1, v2, v3, v4, v8, v9, v10] <;> rfl)) rfl rfl ?_
    refine o_cl rfl rfl (by simp only [evs, ev, envOf, val_set, ofValue, ofCell, ↓reduceIte, Nat.reduceEqDiff, v1, v2, v3, v4, v8, v9, v10] <;> rfl) rfl (ih l[i] (List.getElem_mem hi1) _ W2 E2 (mkC n i) _ _ (hli ▸ FT.mk _ _ _ _ _ hsx) so sw q co cw bo bw fo fw Ls hO hW hNo hNw hAp hG (by omega)) rfl rfl ?_
    rintro _ H4 ⟨so2, sw2, co2, cw2, bo2, bw2, fo2, fw2, Ls2, rfl, hO2, hW2, hNo2, hNw2, hAp2, hG2, hK2, hn2o, hn2w, E4⟩
    have W4 := hK2.wf; have n4 := hK2.n
    have A1 := hK2.keep _ _ A1 (by omega) (.inl rfl) (by omega) (.inl rfl)
    refine o_rd (r_move (by simp only [ev, envOf, val_set, ofValue, ofCell, ↓reduceIte, Nat.reduceEqDiff, v1, v2, v3, v4, v8, v9, v10] <;> rfl)) rfl rfl ?_
    refine o_rd (r_extract (by simp only [ev, envOf, val_set, ofValue, ofCell, ↓reduceIte, Nat.reduceEqDiff, v1, v2, v3, v4, v8, v9, v10] <;> rfl) rfl) rfl rfl ?_
    refine o_rd (r_extract (by simp only [ev, envOf, val_set, ofValue, ofCell, ↓reduceIte, Nat.reduceEqDiff, v1, v2, v3, v4, v8, v9, v10] <;> rfl) rfl) rfl rfl ?_
    refine o_rd (r_assign (by simp only [ev, envOf, val_set, ofValue, ofCell, ↓reduceIte, Nat.reduceEqDiff, v1, v2, v3, v4, v8, v9, v10] <;> rfl)) rfl rfl ?_
    refine o_rd (r_assign (by simp only [ev, envOf, val_set, ofValue, ofCell, ↓reduceIte, Nat.reduceEqDiff, v1, v2, v3, v4, v8, v9, v10] <;> rfl)) rfl rfl ?_
    refine o_nil ?_
    refine w_region ?_
    refine o_rd (r_move (by simp only [ev, envOf, val_set, ofValue, ofCell, ↓reduceIte, Nat.reduceEqDiff, v1, v2, v3, v4, v8, v9, v10] <;> rfl)) rfl rfl ?_
    refine o_rd (r_addE (a := ((i : Nat) : Int)) (b := 1) (c := ((i + 1 : Nat) : Int)) (by simp only [ev, envOf, val_set, ofValue, ofCell, ↓reduceIte, Nat.reduceEqDiff, v1, v2, v3, v4, v8, v9, v10] <;> rfl) (by simp only [ev, envOf, val_set, ofValue, ofCell, ↓reduceIte, Nat.reduceEqDiff, v1, v2, v3, v4, v8, v9, v10] <;> rfl) (by omega) (by omega) (by omega)) rfl rfl ?_
    refine o_rd (r_assign (by simp only [ev, envOf, val_set, ofValue, ofCell, ↓reduceIte, Nat.reduceEqDiff, v1, v2, v3, v4, v8, v9, v10] <;> rfl)) rfl rfl ?_
    refine o_nil ?_
    exact ⟨m - 1, by omega, _, H4, i + 1, _, so2, sw2, co2, cw2, bo2, bw2, fo2, fw2, Ls2, rfl, (by simp only [val_set, ↓reduceIte, Nat.reduceEqDiff, v1, v2, v3, v4, v8, v9, v10] <;> rfl), (by simp only [val_set, ↓reduceIte, Nat.reduceEqDiff, v1, v2, v3, v4, v8, v9, v10] <;> rfl), (by simp only [val_set, ↓reduceIte, Nat.reduceEqDiff, v1, v2, v3, v4, v8, v9, v10] <;> rfl), (by simp only [val_set, ↓reduceIte, Nat.reduceEqDiff, v1, v2, v3, v4, v8, v9, v10] <;> rfl), (by simp only [val_set, ↓reduceIte, Nat.reduceEqDiff, v1, v2, v3, v4, v8, v9, v10] <;> rfl), (by simp only [val_set, ↓reduceIte, Nat.reduceEqDiff, v1, v2, v3, v4, v8, v9, v10] <;> rfl), (by simp only [val_set, ↓reduceIte, Nat.reduceEqDiff, v1, v2, v3, v4, v8, v9, v10] <;> rfl), W4, E4, A1, hO2, hW2, hNo2, hNw2, hAp2, hG2, (hK.trans WS hno hnw hK2), (hno.trans hn2o hKn), (hnw.trans hn2w hKn), (by have := hn2o.1; have := hn2w.1; omega), (by omega), by omega⟩
  · have hc3 := dec_f hc3
    first | refine w_exit (blk_exit ?_) | refine w_exit (show (0 = 0 → _) ∧ (0 ≠ 0 → _) from ⟨fun _ => ?_, fun c => absurd rfl c⟩)
    refine w_seq ?_
    refine w_region ?_
    obtain rfl : i = l.length := by omega
    have EA := E2; have EE := Ext.refl W2
    rw [List.drop_length] at hq; simp only [V.cnts] at hq
    obtain ⟨csl, hll, hcl⟩ := hv.closed
    refine o_rd (r_fieldAddr Ty.fo24_2 (by simp only [ev, envOf, val_set, ofValue, ofCell, ↓reduceIte, Nat.reduceEqDiff, v1, v2, v3, v4, v8, v9, v10] <;> rfl)) rfl rfl ?_
    refine o_rd (r_load1 (v := sv) Ty.agg22 (by simp only [ev, envOf, val_set, ofValue, ofCell, ↓reduceIte, Nat.reduceEqDiff, v1, v2, v3, v4, v8, v9, v10] <;> rfl) (read_mt A1 (Nat.le_of_ble_eq_true rfl))) rfl rfl ?_
    refine o_rd (r_assign (by simp only [ev, envOf, val_set, ofValue, ofCell, ↓reduceIte, Nat.reduceEqDiff, v1, v2, v3, v4, v8, v9, v10] <;> rfl)) rfl rfl ?_
    refine o_nil ?_
    refine w_seq ?_
    refine w_region ?_
    refine o_nw W2 (a_build0 Try.underlying22 Ty.csz24 Ty.zero24 rfl) rfl rfl rfl (by simp) ?_; intro H5 n5 W5 X5 A5
    have E5 := EE.trans X5
    have Om0 : Own H5 24 3 (freshSl (H2.n) 0 0) 0 [] (H2.n) none := own_fresh (n := 0) (e := 3) A5 rfl
    have Nm0 : New H2 (H2.n) none := ⟨EE.n, fun f h => by cases h⟩
    have A1 := X5.keep _ _ A1
    refine o_rd (r_move (by simp only [ev, envOf, val_set, ofValue, ofCell, ↓reduceIte, Nat.reduceEqDiff, v1, v2, v3, v4, v8, v9, v10] <;> rfl)) rfl rfl ?_
    obtain ⟨csm, hsrc, hlm0⟩ := (hv.ext (EA.trans E5)).sa.srcC
    obtain ⟨csm2, hsrc2, hlm⟩ := hv.sa.srcC
    obtain rfl : csm = csm2 := by have h1 := srcC_ext (EA.trans E5) hsrc2; rw [hsrc] at h1; injection h1 with h1; injection h1
    refine o_ap W5 Try.underlying22 Try.underlying22 rfl Ty.csz24 Ty.byt24 Ty.zero24 rfl (by simp only [ev, envOf, val_set, ofValue, ofCell, ↓reduceIte, Nat.reduceEqDiff, v1, v2, v3, v4, v8, v9, v10] <;> rfl) (by simp only [ev, envOf, val_set, ofValue, ofCell, ↓reduceIte, Nat.reduceEqDiff, v1, v2, v3, v4, v8, v9, v10] <;> rfl) Om0 hsrc hlm.len hlm.ones (by omega) rfl rfl ?_; intro sm0 H6 bm0 fm0 Om6 W6 l6 u6 p6 q6 K6
    have E6 := Ext.keeps W2 E5 Nm0 K6 l6 W6
    have Nm6 := Nm0.step E5.n p6 q6
    have A1 := K6.at A1 (by omega) rfl
    refine o_rd (r_assign (by simp only [ev, envOf, val_set, ofValue, ofCell, ↓reduceIte, Nat.reduceEqDiff, v1, v2, v3, v4, v8, v9, v10] <;> rfl)) rfl rfl ?_
    refine o_nil ?_
    refine w_seq ?_
    refine w_seq ?_
    refine w_region ?_
    refine o_rd (r_assign (by simp only [ev, envOf, val_set, ofValue, ofCell, ↓reduceIte, Nat.reduceEqDiff, v1, v2, v3, v4, v8, v9, v10] <;> rfl)) rfl rfl ?_
    refine o_nil ?_
    refine w_block ?_
    refine w_peel ?_
    refine w_seq ?_
    refine w_seq ?_
    refine w_region ?_
    refine o_rd (r_move (by simp only [ev, envOf, val_set, ofValue, ofCell, ↓reduceIte, Nat.reduceEqDiff, v1, v2, v3, v4, v8, v9, v10] <;> rfl)) rfl rfl ?_
    refine o_rd ((r_lt (a := 0) (b := 9) (by simp only [ev, envOf, val_set, ofValue, ofCell, ↓reduceIte, Nat.reduceEqDiff, v1, v2, v3, v4, v8, v9, v10] <;> rfl) (by simp only [ev, envOf, val_set, ofValue, ofCell, ↓reduceIte, Nat.reduceEqDiff, v1, v2, v3, v4, v8, v9, v10] <;> rfl)).trans (by rfl : some (AV.bool _) = some (AV.bool true))) rfl rfl ?_
    refine o_nil ?_
    refine w_cond (t := true) (by simp only [ev, envOf, val_set, ofValue, ofCell, ↓reduceIte, Nat.reduceEqDiff, v1, v2, v3, v4, v8, v9, v10] <;> rfl) (fun _ => ?_) (fun h => by cases h)
    refine w_skip ?_
    refine w_seq ?_
    refine w_block ?_
    refine w_seq ?_
    refine w_region ?_
    refine o_rd (r_move (by simp only [ev, envOf, val_set, ofValue, ofCell, ↓reduceIte, Nat.reduceEqDiff, v1, v2, v3, v4, v8, v9, v10] <;> rfl)) rfl rfl ?_
    refine o_rd (r_move (by simp only [ev, envOf, val_set, ofValue, ofCell, ↓reduceIte, Nat.reduceEqDiff, v1, v2, v3, v4, v8, v9, v10] <;> rfl)) rfl rfl ?_
    refine o_rd (r_negW (a := n) (by simp only [ev, envOf, val_set, ofValue, ofCell, ↓reduceIte, Nat.reduceEqDiff, v1, v2, v3, v4, v8, v9, v10] <;> rfl)) rfl rfl ?_
    refine o_rd (r_subW (a := wrapA .i64 (0 - n)) (b := 7000) (by simp only [ev, envOf, val_set, ofValue, ofCell, ↓reduceIte, Nat.reduceEqDiff, v1, v2, v3, v4, v8, v9, v10] <;> rfl) (by simp only [ev, envOf, val_set, ofValue, ofCell, ↓reduceIte, Nat.reduceEqDiff, v1, v2, v3, v4, v8, v9, v10] <;> rfl)) rfl rfl ?_
    refine o_rd (r_build (cs := [.int .i64 (0), .int .i64 (wrapA .i64 (wrapA .i64 (0 - n) - 7000)), .nils]) Ty.zero24 Ty.pl24 (by simp only [evParts, ev, envOf, val_set, ofValue, ofCell, ↓reduceIte, Nat.reduceEqDiff, v1, v2, v3, v4, v8, v9, v10] <;> rfl) rfl) rfl rfl ?_
    refine o_nw W6 (a_build1 Try.underlying22 Ty.csz24 Ty.zero24 rfl (by simp only [ev, envOf, val_set, ofValue, ofCell, ↓reduceIte, Nat.reduceEqDiff, v1, v2, v3, v4, v8, v9, v10] <;> rfl) rfl (by decide)) rfl rfl rfl (by simp) ?_; intro H7 n7 W7 X7 A7
    have E7 := E6.trans X7
    have A1 := X7.keep _ _ A1
    refine o_apC W7 Try.underlying22 Try.underlying22 rfl Ty.csz24 Ty.byt24 Ty.zero24 rfl (by simp only [ev, envOf, val_set, ofValue, ofCell, ↓reduceIte, Nat.reduceEqDiff, v1, v2, v3, v4, v8, v9, v10] <;> rfl) (by simp only [ev, envOf, val_set, ofValue, ofCell, ↓reduceIte, Nat.reduceEqDiff, v1, v2, v3, v4, v8, v9, v10] <;> rfl) (hcl.imp id fun ⟨b, e1, e2, e3⟩ => ⟨b, e1, (EA.trans E7).keep _ _ e2, e3⟩) (src_fresh (n := 1) A7 rfl) rfl rfl (Nat.le_refl _) (by omega) rfl rfl ?_; intro s8 H8 O8 W8 n8 X8
    have E8 := E7.trans X8
    have N8 : New H2 H7.n none := ⟨E7.n, fun f h => by cases h⟩
    have A1 := X8.keep _ _ A1
    have Om8 := (Om6.ext X7)
    have Ap8 : Apart H7.n none bm0 fm0 := ⟨by have := Om8.lt W7; omega, .inl rfl⟩
    replace Om8 := Om8.ext X8
    refine o_rd (r_assign (by simp only [ev, envOf, val_set, ofValue, ofCell, ↓reduceIte, Nat.reduceEqDiff, v1, v2, v3, v4, v8, v9, v10] <;> rfl)) rfl rfl ?_
    refine o_nil ?_
    refine w_region ?_
    refine o_rd (r_move (by simp only [ev, envOf, val_set, ofValue, ofCell, ↓reduceIte, Nat.reduceEqDiff, v1, v2, v3, v4, v8, v9, v10] <;> rfl)) rfl rfl ?_
    refine o_rd (r_move (by simp only [ev, envOf, val_set, ofValue, ofCell, ↓reduceIte, Nat.reduceEqDiff, v1, v2, v3, v4, v8, v9, v10] <;> rfl)) rfl rfl ?_
    refine o_rd (r_negW (a := n) (by simp only [ev, envOf, val_set, ofValue, ofCell, ↓reduceIte, Nat.reduceEqDiff, v1, v2, v3, v4, v8, v9, v10] <;> rfl)) rfl rfl ?_
    refine o_rd (r_subW (a := wrapA .i64 (0 - n)) (b := 7000) (by simp only [ev, envOf, val_set, ofValue, ofCell, ↓reduceIte, Nat.reduceEqDiff, v1, v2, v3, v4, v8, v9, v10] <;> rfl) (by simp only [ev, envOf, val_set, ofValue, ofCell, ↓reduceIte, Nat.reduceEqDiff, v1, v2, v3, v4, v8, v9, v10] <;> rfl)) rfl rfl ?_
    refine o_rd (r_build (cs := [.int .i64 (0), .int .i64 (wrapA .i64 (wrapA .i64 (0 - n) - 7000)), .nils]) Ty.zero24 Ty.pl24 (by simp only [evParts, ev, envOf, val_set, ofValue, ofCell, ↓reduceIte, Nat.reduceEqDiff, v1, v2, v3, v4, v8, v9, v10] <;> rfl) rfl) rfl rfl ?_
    refine o_nw W8 (a_build1 Try.underlying22 Ty.csz24 Ty.zero24 rfl (by simp only [ev, envOf, val_set, ofValue, ofCell, ↓reduceIte, Nat.reduceEqDiff, v1, v2, v3, v4, v8, v9, v10] <;> rfl) rfl (by decide)) rfl rfl rfl (by simp) ?_; intro H9 n9 W9 X9 A9
    have E9 := E8.trans X9
    have A1 := X9.keep _ _ A1
    refine o_ap W9 Try.underlying22 Try.underlying22 rfl Ty.csz24 Ty.byt24 Ty.zero24 rfl (by simp only [ev, envOf, val_set, ofValue, ofCell, ↓reduceIte, Nat.reduceEqDiff, v1, v2, v3, v4, v8, v9, v10] <;> rfl) (by simp only [ev, envOf, val_set, ofValue, ofCell, ↓reduceIte, Nat.reduceEqDiff, v1, v2, v3, v4, v8, v9, v10] <;> rfl) (Om8.ext X9) (src_fresh (n := 1) A9 rfl) rfl rfl (by omega) rfl rfl ?_; intro s10 H10 b10 f10 O10 W10 l10 u10 p10 q10 K10
    have E10 := Ext.keeps W2 E9 Nm6 K10 l10 W10
    have N10 := Nm6.step E9.n p10 q10
    have Oo10 := (O8.ext X9)
    have Ap10 := (Ap8.symm).step (Oo10.lt W9) (fun f hf => Oo10.famlt W9 hf) p10 q10
    replace Oo10 := Oo10.other K10 (Ap8.symm).symm
    have hme := Nm6.1
    have A1 := K10.at A1 (by omega) rfl
    refine o_rd (r_assign (by simp only [ev, envOf, val_set, ofValue, ofCell, ↓reduceIte, Nat.reduceEqDiff, v1, v2, v3, v4, v8, v9, v10] <;> rfl)) rfl rfl ?_
    refine o_nil ?_
    refine w_region ?_
    refine o_rd (r_move (by simp only [ev, envOf, val_set, ofValue, ofCell, ↓reduceIte, Nat.reduceEqDiff, v1, v2, v3, v4, v8, v9, v10] <;> rfl)) rfl rfl ?_
    refine o_rd (r_addE (a := 0) (b := 1) (c := 1) (by simp only [ev, envOf, val_set, ofValue, ofCell, ↓reduceIte, Nat.reduceEqDiff, v1, v2, v3, v4, v8, v9, v10] <;> rfl) (by simp only [ev, envOf, val_set, ofValue, ofCell, ↓reduceIte, Nat.reduceEqDiff, v1, v2, v3, v4, v8, v9, v10] <;> rfl) (by omega) (by omega) (by omega)) rfl rfl ?_
    refine o_rd (r_assign (by simp only [ev, envOf, val_set, ofValue, ofCell, ↓reduceIte, Nat.reduceEqDiff, v1, v2, v3, v4, v8, v9, v10] <;> rfl)) rfl rfl ?_
    refine o_nil ?_
    refine w_loop (fun m s => ∃ (e : Env) (H : AH) (k : Nat) (sl : AV) (sm : AV) (Lk : List V) (cl : List AV) (cm : List AV) (bl : Nat) (bm : Nat) (fl : Option Nat) (fm : Option Nat), s = ⟨e, H, []⟩ ∧ e.val 1 = .int .i64 (n) ∧ e.val 2 = so ∧ e.val 3 = sw ∧ e.val 8 = .nils ∧ e.val 9 = .nils ∧ e.val 11 = sl ∧ e.val 12 = sm ∧ e.val 13 = .int .i64 (((k : Nat) : Int)) ∧ Wf H ∧ Ext H2 H ∧ H.at (HS.n) = some (.row [.int .i64 (ka), .int .i64 (ma), sv] 24 false none) ∧ (Own H 24 3 sl Lk.length cl bl fl) ∧ (Own H 24 3 sm Lk.length cm bm fm) ∧ (New H2 bl fl) ∧ (New H2 bm fm) ∧ (Apart bl fl bm fm) ∧ (LA H0 Lk cl) ∧ (LA H0 Lk cm) ∧ (Lk.length = l.length + k) ∧ (k + m = 9)) (8) ⟨_, H10, 1, _, _, l ++ [.mk 0 (zN n) []], _, _, _, _, _, _, rfl, (by simp only [val_set, ↓reduceIte, Nat.reduceEqDiff, v1, v2, v3, v4, v8, v9, v10] <;> rfl), (by simp only [val_set, ↓reduceIte, Nat.reduceEqDiff, v1, v2, v3, v4, v8, v9, v10] <;> rfl), (by simp only [val_set, ↓reduceIte, Nat.reduceEqDiff, v1, v2, v3, v4, v8, v9, v10] <;> rfl), (by simp only [val_set, ↓reduceIte, Nat.reduceEqDiff, v1, v2, v3, v4, v8, v9, v10] <;> rfl), (by simp only [val_set, ↓reduceIte, Nat.reduceEqDiff, v1, v2, v3, v4, v8, v9, v10] <;> rfl), (by simp only [val_set, ↓reduceIte, Nat.reduceEqDiff, v1, v2, v3, v4, v8, v9, v10] <;> rfl), (by simp only [val_set, ↓reduceIte, Nat.reduceEqDiff, v1, v2, v3, v4, v8, v9, v10] <;> rfl), (by simp only [val_set, ↓reduceIte, Nat.reduceEqDiff, v1, v2, v3, v4, v8, v9, v10] <;> rfl), W10, E10, A1, (by rw [List.length_append]; exact Oo10), (by rw [List.length_append]; have h := O10; rw [Nat.zero_add] at h; exact h), N8, N10, Ap10.symm, (hll.append (LA.one (.mk _ _ _ _ .nil))), (hlm.append (LA.one (.mk _ _ _ _ .nil))), (by simp), (by omega)⟩ ?_
    intro m s hi
    obtain ⟨e, H11, k, sl, sm, Lk, cl, cm, bl, bm, fl, fm, rfl, v1, v2, v3, v8, v9, v11, v12, v13, W11, E11, A1, hOl, hOm, hNl, hNm, hAlm, hLl, hLm, hLk, hk9⟩ := hi
    have l11_0 := W11.lt A1
    have hNl1 := hNl.1; have hNm1 := hNm.1; have hEn2 := E11.n
    refine w_seq ?_
    refine w_seq ?_
    refine w_region ?_
    refine o_rd (r_move (by simp only [ev, envOf, val_set, ofValue, ofCell, ↓reduceIte, Nat.reduceEqDiff, v1, v2, v3, v8, v9, v11, v12, v13] <;> rfl)) rfl rfl ?_
    refine o_rd (r_lt (a := ((k : Nat) : Int)) (b := 9) (by simp only [ev, envOf, val_set, ofValue, ofCell, ↓reduceIte, Nat.reduceEqDiff, v1, v2, v3, v8, v9, v11, v12, v13] <;> rfl) (by simp only [ev, envOf, val_set, ofValue, ofCell, ↓reduceIte, Nat.reduceEqDiff, v1, v2, v3, v8, v9, v11, v12, v13] <;> rfl)) rfl rfl ?_
    refine o_nil ?_
    refine w_cond (by simp only [ev, envOf, val_set, ofValue, ofCell, ↓reduceIte, Nat.reduceEqDiff, v1, v2, v3, v8, v9, v11, v12, v13] <;> rfl) (fun hc12 => ?_) (fun hc12 => ?_)
    · have hc12 := dec_t hc12
      refine w_skip ?_
      refine w_seq ?_
      refine w_block ?_
      refine w_seq ?_
      refine w_region ?_
      refine o_rd (r_move (by simp only [ev, envOf, val_set, ofValue, ofCell, ↓reduceIte, Nat.reduceEqDiff, v1, v2, v3, v8, v9, v11, v12, v13] <;> rfl)) rfl rfl ?_
      refine o_rd (r_move (by simp only [ev, envOf, val_set, ofValue, ofCell, ↓reduceIte, Nat.reduceEqDiff, v1, v2, v3, v8, v9, v11, v12, v13] <;> rfl)) rfl rfl ?_
      refine o_rd (r_negW (a := n) (by simp only [ev, envOf, val_set, ofValue, ofCell, ↓reduceIte, Nat.reduceEqDiff, v1, v2, v3, v8, v9, v11, v12, v13] <;> rfl)) rfl rfl ?_
      refine o_rd (r_subW (a := wrapA .i64 (0 - n)) (b := 7000) (by simp only [ev, envOf, val_set, ofValue, ofCell, ↓reduceIte, Nat.reduceEqDiff, v1, v2, v3, v8, v9, v11, v12, v13] <;> rfl) (by simp only [ev, envOf, val_set, ofValue, ofCell, ↓reduceIte, Nat.reduceEqDiff, v1, v2, v3, v8, v9, v11, v12, v13] <;> rfl)) rfl rfl ?_
      refine o_rd (r_build (cs := [.int .i64 (0), .int .i64 (wrapA .i64 (wrapA .i64 (0 - n) - 7000)), .nils]) Ty.zero24 Ty.pl24 (by simp only [evParts, ev, envOf, val_set, ofValue, ofCell, ↓reduceIte, Nat.reduceEqDiff, v1, v2, v3, v8, v9, v11, v12, v13] <;> rfl) rfl) rfl rfl ?_
      refine o_nw W11 (a_build1 Try.underlying22 Ty.csz24 Ty.zero24 rfl (by simp only [ev, envOf, val_set, ofValue, ofCell, ↓reduceIte, Nat.reduceEqDiff, v1, v2, v3, v8, v9, v11, v12, v13] <;> rfl) rfl (by decide)) rfl rfl rfl (by simp) ?_; intro H13 n13 W13 X13 A13
      have E13 := E11.trans X13
      have A1 := X13.keep _ _ A1
      refine o_ap W13 Try.underlying22 Try.underlying22 rfl Ty.csz24 Ty.byt24 Ty.zero24 rfl (by simp only [ev, envOf, val_set, ofValue, ofCell, ↓reduceIte, Nat.reduceEqDiff, v1, v2, v3, v8, v9, v11, v12, v13] <;> rfl) (by simp only [ev, envOf, val_set, ofValue, ofCell, ↓reduceIte, Nat.reduceEqDiff, v1, v2, v3, v8, v9, v11, v12, v13] <;> rfl) (hOl.ext X13) (src_fresh (n := 1) A13 rfl) rfl rfl (by omega) rfl rfl ?_; intro s14 H14 b14 f14 O14 W14 l14 u14 p14 q14 K14
      have E14 := Ext.keeps W2 E13 hNl K14 l14 W14
      have N14 := hNl.step E13.n p14 q14
      have Oo14 := (hOm.ext X13)
      have Ap14 := (hAlm).step (Oo14.lt W13) (fun f hf => Oo14.famlt W13 hf) p14 q14
      replace Oo14 := Oo14.other K14 (hAlm).symm
      have hme := hNl.1
      have A1 := K14.at A1 (by omega) rfl
      refine o_rd (r_assign (by simp only [ev, envOf, val_set, ofValue, ofCell, ↓reduceIte, Nat.reduceEqDiff, v1, v2, v3, v8, v9, v11, v12, v13] <;> rfl)) rfl rfl ?_
      refine o_nil ?_
      refine w_region ?_
      refine o_rd (r_move (by simp only [ev, envOf, val_set, ofValue, ofCell, ↓reduceIte, Nat.reduceEqDiff, v1, v2, v3, v8, v9, v11, v12, v13] <;> rfl)) rfl rfl ?_
      refine o_rd (r_move (by simp only [ev, envOf, val_set, ofValue, ofCell, ↓reduceIte, Nat.reduceEqDiff, v1, v2, v3, v8, v9, v11, v12, v13] <;> rfl)) rfl rfl ?_
      refine o_rd (r_negW (a := n) (by simp only [ev, envOf, val_set, ofValue, ofCell, ↓reduceIte, Nat.reduceEqDiff, v1, v2, v3, v8, v9, v11, v12, v13] <;> rfl)) rfl rfl ?_
      refine o_rd (r_subW (a := wrapA .i64 (0 - n)) (b := 7000) (by simp only [ev, envOf, val_set, ofValue, ofCell, ↓reduceIte, Nat.reduceEqDiff, v1, v2, v3, v8, v9, v11, v12, v13] <;> rfl) (by simp only [ev, envOf, val_set, ofValue, ofCell, ↓reduceIte, Nat.reduceEqDiff, v1, v2, v3, v8, v9, v11, v12, v13] <;> rfl)) rfl rfl ?_
      refine o_rd (r_build (cs := [.int .i64 (0), .int .i64 (wrapA .i64 (wrapA .i64 (0 - n) - 7000)), .nils]) Ty.zero24 Ty.pl24 (by simp only [evParts, ev, envOf, val_set, ofValue, ofCell, ↓reduceIte, Nat.reduceEqDiff, v1, v2, v3, v8, v9, v11, v12, v13] <;> rfl) rfl) rfl rfl ?_
      refine o_nw W14 (a_build1 Try.underlying22 Ty.csz24 Ty.zero24 rfl (by simp only [ev, envOf, val_set, ofValue, ofCell, ↓reduceIte, Nat.reduceEqDiff, v1, v2, v3, v8, v9, v11, v12, v13] <;> rfl) rfl (by decide)) rfl rfl rfl (by simp) ?_; intro H15 n15 W15 X15 A15
      have E15 := E14.trans X15
      have A1 := X15.keep _ _ A1
      refine o_ap W15 Try.underlying22 Try.underlying22 rfl Ty.csz24 Ty.byt24 Ty.zero24 rfl (by simp only [ev, envOf, val_set, ofValue, ofCell, ↓reduceIte, Nat.reduceEqDiff, v1, v2, v3, v8, v9, v11, v12, v13] <;> rfl) (by simp only [ev, envOf, val_set, ofValue, ofCell, ↓reduceIte, Nat.reduceEqDiff, v1, v2, v3, v8, v9, v11, v12, v13] <;> rfl) (Oo14.ext X15) (src_fresh (n := 1) A15 rfl) rfl rfl (by omega) rfl rfl ?_; intro s16 H16 b16 f16 O16 W16 l16 u16 p16 q16 K16
      have E16 := Ext.keeps W2 E15 hNm K16 l16 W16
      have N16 := hNm.step E15.n p16 q16
      have Oo16 := (O14.ext X15)
      have Ap16 := (Ap14.symm).step (Oo16.lt W15) (fun f hf => Oo16.famlt W15 hf) p16 q16
      replace Oo16 := Oo16.other K16 (Ap14.symm).symm
      have hme := hNm.1
      have A1 := K16.at A1 (by omega) rfl
      refine o_rd (r_assign (by simp only [ev, envOf, val_set, ofValue, ofCell, ↓reduceIte, Nat.reduceEqDiff, v1, v2, v3, v8, v9, v11, v12, v13] <;> rfl)) rfl rfl ?_
      refine o_nil ?_
      refine w_region ?_
      refine o_rd (r_move (by simp only [ev, envOf, val_set, ofValue, ofCell, ↓reduceIte, Nat.reduceEqDiff, v1, v2, v3, v8, v9, v11, v12, v13] <;> rfl)) rfl rfl ?_
      refine o_rd (r_addE (a := ((k : Nat) : Int)) (b := 1) (c := ((k + 1 : Nat) : Int)) (by simp only [ev, envOf, val_set, ofValue, ofCell, ↓reduceIte, Nat.reduceEqDiff, v1, v2, v3, v8, v9, v11, v12, v13] <;> rfl) (by simp only [ev, envOf, val_set, ofValue, ofCell, ↓reduceIte, Nat.reduceEqDiff, v1, v2, v3, v8, v9, v11, v12, v13] <;> rfl) (by omega) (by omega) (by omega)) rfl rfl ?_
      refine o_rd (r_assign (by simp only [ev, envOf, val_set, ofValue, ofCell, ↓reduceIte, Nat.reduceEqDiff, v1, v2, v3, v8, v9, v11, v12, v13] <;> rfl)) rfl rfl ?_
      refine o_nil ?_
      exact ⟨m - 1, by omega, _, H16, k + 1, _, _, Lk ++ [.mk 0 (zN n) []], _, _, _, _, _, _, rfl, (by simp only [val_set, ↓reduceIte, Nat.reduceEqDiff, v1, v2, v3, v8, v9, v11, v12, v13] <;> rfl), (by simp only [val_set, ↓reduceIte, Nat.reduceEqDiff, v1, v2, v3, v8, v9, v11, v12, v13] <;> rfl), (by simp only [val_set, ↓reduceIte, Nat.reduceEqDiff, v1, v2, v3, v8, v9, v11, v12, v13] <;> rfl), (by simp only [val_set, ↓reduceIte, Nat.reduceEqDiff, v1, v2, v3, v8, v9, v11, v12, v13] <;> rfl), (by simp only [val_set, ↓reduceIte, Nat.reduceEqDiff, v1, v2, v3, v8, v9, v11, v12, v13] <;> rfl), (by simp only [val_set, ↓reduceIte, Nat.reduceEqDiff, v1, v2, v3, v8, v9, v11, v12, v13] <;> rfl), (by simp only [val_set, ↓reduceIte, Nat.reduceEqDiff, v1, v2, v3, v8, v9, v11, v12, v13] <;> rfl), (by simp only [val_set, ↓reduceIte, Nat.reduceEqDiff, v1, v2, v3, v8, v9, v11, v12, v13] <;> rfl), W16, E16, A1, (by rw [List.length_append]; exact Oo16), (by rw [List.length_append]; exact O16), N14, N16, Ap16.symm, (hLl.append (LA.one (.mk _ _ _ _ .nil))), (hLm.append (LA.one (.mk _ _ _ _ .nil))), (by simp; omega), (by omega)⟩
    · have hc12 := dec_f hc12
      first | refine w_exit (blk_exit ?_) | refine w_exit (show (2 = 2 → _) ∧ (2 ≠ 2 → _) from ⟨fun _ => ?_, fun c => absurd rfl c⟩)
      refine w_seq ?_
      refine w_region ?_
      have hOA := hO.ext E11; have hWA := hW.ext E11
      have hGA := hG.2.step W2 (K2.ofExt E11) Nw.refl Nw.refl
      have hKA := hK.trans WS hno hnw (K2.ofExt E11)
      have hEn := E11.n
      have alo : Apart bl fl bo fo := ⟨by have := hNl.1; omega, by cases hq2 : fl with | none => exact .inl rfl | some g => exact .inr fun e => by have h1 := hNl.2 g hq2; have h2 := hO.famlt W2 e.symm; omega⟩
      have alw : Apart bl fl bw fw := ⟨by have := hNl.1; omega, by cases hq2 : fl with | none => exact .inl rfl | some g => exact .inr fun e => by have h1 := hNl.2 g hq2; have h2 := hW.famlt W2 e.symm; omega⟩
      have amo : Apart bm fm bo fo := ⟨by have := hNm.1; omega, by cases hq2 : fm with | none => exact .inl rfl | some g => exact .inr fun e => by have h1 := hNm.2 g hq2; have h2 := hO.famlt W2 e.symm; omega⟩
      have amw : Apart bm fm bw fw := ⟨by have := hNm.1; omega, by cases hq2 : fm with | none => exact .inl rfl | some g => exact .inr fun e => by have h1 := hNm.2 g hq2; have h2 := hW.famlt W2 e.symm; omega⟩
      have EB := EA.trans E11
      have hGB := hGA.snoc W0 EB hNo hNw (by omega) hOl hOm hLl hLm alo alw amo amw
      refine o_rd (r_move (by simp only [ev, envOf, val_set, ofValue, ofCell, ↓reduceIte, Nat.reduceEqDiff, v1, v2, v3, v8, v9, v11, v12, v13] <;> rfl)) rfl rfl ?_
      refine o_rd (r_move (by simp only [ev, envOf, val_set, ofValue, ofCell, ↓reduceIte, Nat.reduceEqDiff, v1, v2, v3, v8, v9, v11, v12, v13] <;> rfl)) rfl rfl ?_
      have hslc : sl.cells = [sl] := by obtain ⟨_, _, e, _⟩ := hOl.read; rw [e]; rfl
      have hsmc : sm.cells = [sm] := by obtain ⟨_, _, e, _⟩ := hOm.read; rw [e]; rfl
      have holn : AV.one sl = true := by obtain ⟨_, _, e, _⟩ := hOl.read; rw [e]; rfl
      have homn : AV.one sm = true := by obtain ⟨_, _, e, _⟩ := hOm.read; rw [e]; rfl
      refine o_nw W11 (a_build1 Try.underlying50 Ty.csz22 Ty.zero22 rfl (by simp only [ev, envOf, val_set, ofValue, ofCell, ↓reduceIte, Nat.reduceEqDiff, v1, v2, v3, v8, v9, v11, v12, v13] <;> rfl) (by rw [hslc]; rfl) (by decide)) rfl rfl rfl (by simp) ?_; intro H18 n18 W18 X18 A18
      rw [hslc] at A18
      have E18 := EB.trans X18
      refine o_ap W18 Try.underlying50 Try.underlying50 rfl Ty.csz22 Ty.byt22 Ty.zero22 rfl (by simp only [ev, envOf, val_set, ofValue, ofCell, ↓reduceIte, Nat.reduceEqDiff, v1, v2, v3, v8, v9, v11, v12, v13] <;> rfl) (by simp only [ev, envOf, val_set, ofValue, ofCell, ↓reduceIte, Nat.reduceEqDiff, v1, v2, v3, v8, v9, v11, v12, v13] <;> rfl) (hOA.ext X18) (src_fresh (n := 1) A18 rfl) rfl (by show (match AV.one sl with | true => true | false => false) = true; rw [holn]) (by omega) rfl rfl ?_; intro s19 H19 b19 f19 O19 W19 l19 u19 p19 q19 K19
      have E19 := Ext.keeps W0 E18 hNo K19 l19 W19
      have N19 := hNo.step E18.n p19 q19
      have Oo19 := (hWA.ext X18)
      have Ap19 := (hAp).step (Oo19.lt W18) (fun f hf => Oo19.famlt W18 hf) p19 q19
      replace Oo19 := Oo19.other K19 (hAp).symm
      have KX19 := K2.ofExt (b := bo) (f := fo) (b' := bw) (f' := fw) X18
      have KY19 := K2.first (b := bo) (f := fo) (b' := bw) (f' := fw) K19 l19 W19
      have hG19 := (hGB.step W11 KX19 Nw.refl Nw.refl).step W18 KY19 (Nw.step p19 q19) Nw.refl
      refine o_rd (r_move (by simp only [ev, envOf, val_set, ofValue, ofCell, ↓reduceIte, Nat.reduceEqDiff, v1, v2, v3, v8, v9, v11, v12, v13] <;> rfl)) rfl rfl ?_
      refine o_rd (r_move (by simp only [ev, envOf, val_set, ofValue, ofCell, ↓reduceIte, Nat.reduceEqDiff, v1, v2, v3, v8, v9, v11, v12, v13] <;> rfl)) rfl rfl ?_
      refine o_nw W19 (a_build1 Try.underlying50 Ty.csz22 Ty.zero22 rfl (by simp only [ev, envOf, val_set, ofValue, ofCell, ↓reduceIte, Nat.reduceEqDiff, v1, v2, v3, v8, v9, v11, v12, v13] <;> rfl) (by rw [hsmc]; rfl) (by decide)) rfl rfl rfl (by simp) ?_; intro H20 n20 W20 X20 A20
      rw [hsmc] at A20
      have E20 := E19.trans X20
      refine o_ap W20 Try.underlying50 Try.underlying50 rfl Ty.csz22 Ty.byt22 Ty.zero22 rfl (by simp only [ev, envOf, val_set, ofValue, ofCell, ↓reduceIte, Nat.reduceEqDiff, v1, v2, v3, v8, v9, v11, v12, v13] <;> rfl) (by simp only [ev, envOf, val_set, ofValue, ofCell, ↓reduceIte, Nat.reduceEqDiff, v1, v2, v3, v8, v9, v11, v12, v13] <;> rfl) (Oo19.ext X20) (src_fresh (n := 1) A20 rfl) rfl (by show (match AV.one sm with | true => true | false => false) = true; rw [homn]) (by omega) rfl rfl ?_; intro s21 H21 b21 f21 O21 W21 l21 u21 p21 q21 K21
      have E21 := Ext.keeps W0 E20 hNw K21 l21 W21
      have N21 := hNw.step E20.n p21 q21
      have Oo21 := (O19.ext X20)
      have Ap21 := (Ap19.symm).step (Oo21.lt W20) (fun f hf => Oo21.famlt W20 hf) p21 q21
      replace Oo21 := Oo21.other K21 (Ap19.symm).symm
      have KX21 := K2.ofExt (b := b19) (f := f19) (b' := bw) (f' := fw) X20
      have KY21 := K2.second (b := b19) (f := f19) (b' := bw) (f' := fw) K21 l21 W21
      have hG21 := (hG19.step W19 KX21 Nw.refl Nw.refl).step W20 KY21 Nw.refl (Nw.step p21 q21)
      refine o_rd (r_assign (by simp only [ev, envOf, val_set, ofValue, ofCell, ↓reduceIte, Nat.reduceEqDiff, v1, v2, v3, v8, v9, v11, v12, v13] <;> rfl)) rfl rfl ?_
      refine o_rd (r_assign (by simp only [ev, envOf, val_set, ofValue, ofCell, ↓reduceIte, Nat.reduceEqDiff, v1, v2, v3, v8, v9, v11, v12, v13] <;> rfl)) rfl rfl ?_
      refine o_nil ?_
      refine w_ret ⟨.inr rfl, rfl, .tup [s19, s21], (show resultA Try.prog [.tmp 8, .tmp 9] _ = _ by simp only [resultA, resultsA, envOf, val_set, ↓reduceIte, Nat.reduceEqDiff, Option.map_some, v1, v2, v3, v8, v9, v11, v12, v13] <;> rfl), ?_⟩
      try dsimp only
      have hz1 := hK.n
      have kk0 := hKA.trans WS hno hnw KX19
      have no0 := hno.trans Nw.refl (by have := hKA.n; omega)
      have nw0 := hnw.trans Nw.refl (by have := hKA.n; omega)
      have kk1 := kk0.trans WS no0 nw0 KY19
      have no1 := no0.trans (Nw.step p19 q19) (by have := kk0.n; omega)
      have nw1 := nw0.trans Nw.refl (by have := kk0.n; omega)
      have kk2 := kk1.trans WS no1 nw1 KX21
      have no2 := no1.trans Nw.refl (by have := kk1.n; omega)
      have nw2 := nw1.trans Nw.refl (by have := kk1.n; omega)
      have kk3 := kk2.trans WS no2 nw2 KY21
      have no3 := no2.trans Nw.refl (by have := kk2.n; omega)
      have nw3 := nw2.trans (Nw.step p21 q21) (by have := kk2.n; omega)
      exact ⟨_, _, _, _, _, _, _, _, _, rfl, by simp only [V.cnt]; rw [show q0 + (1 + V.cnts l) = q + 1 by omega]; exact Oo21, by simp only [V.cnt]; rw [show q0 + (1 + V.cnts l) = q + 1 by omega]; exact O21, N19, N21, Ap21.symm, ⟨by simp only [V.cnt, List.length_append, List.length_cons, List.length_nil]; omega, hG21⟩, kk3, no3, nw3, E21⟩
theorem grow_fin (ho : NoOrcBut [9, 35, 36] orc) {H0 : AH} (W0 : Wf H0) (x : V) : ∀ (H : AH), Wf H → Ext H0 H → ∀ (n : Int) (bs : List Nat) (a : List AV), FT H0 0 bs x a → ∀ (so sw : AV) (q : Nat) (co cw : List AV) (bo bw : Nat) (fo fw : Option Nat) (Ls : List (List V)), Own H 22 1 so q co bo fo → Own H 22 1 sw q cw bw fw → New H0 bo fo → New H0 bw fw → Apart bo fo bw fw → (Ls.length = q ∧ GL bo fo bw fw H Ls co cw) → q + x.cnt ≤ 50000000 → VI.Fin Try.prog orc 49 [.agg a, .int .i64 n, so, sw] H (fun r H' => ∃ so' sw' co' cw' bo' bw' fo' fw' Ls', r = .tup [so', sw'] ∧ Own H' 22 1 so' (q + x.cnt) co' bo' fo' ∧ Own H' 22 1 sw' (q + x.cnt) cw' bw' fw' ∧ New H0 bo' fo' ∧ New H0 bw' fw' ∧ Apart bo' fo' bw' fw' ∧ (Ls'.length = q + x.cnt ∧ GL bo' fo' bw' fw' H' Ls' co' cw') ∧ K2 bo fo bw fw H H' ∧ Nw H bo fo bo' fo' ∧ Nw H bw fw bw' fw' ∧ Ext H0 H') := by
  refine V.ind (p := fun x => ∀ (H : AH), Wf H → Ext H0 H → ∀ (n : Int) (bs : List Nat) (a : List AV), FT H0 0 bs x a → ∀ (so sw : AV) (q : Nat) (co cw : List AV) (bo bw : Nat) (fo fw : Option Nat) (Ls : List (List V)), Own H 22 1 so q co bo fo → Own H 22 1 sw q cw bw fw → New H0 bo fo → New H0 bw fw → Apart bo fo bw fw → (Ls.length = q ∧ GL bo fo bw fw H Ls co cw) → q + x.cnt ≤ 50000000 → VI.Fin Try.prog orc 49 [.agg a, .int .i64 n, so, sw] H (fun r H' => ∃ so' sw' co' cw' bo' bw' fo' fw' Ls', r = .tup [so', sw'] ∧ Own H' 22 1 so' (q + x.cnt) co' bo' fo' ∧ Own H' 22 1 sw' (q + x.cnt) cw' bw' fw' ∧ New H0 bo' fo' ∧ New H0 bw' fw' ∧ Apart bo' fo' bw' fw' ∧ (Ls'.length = q + x.cnt ∧ GL bo' fo' bw' fw' H' Ls' co' cw') ∧ K2 bo fo bw fw H H' ∧ Nw H bo fo bo' fo' ∧ Nw H bw fw bw' fw' ∧ Ext H0 H')) ?_ x
  intro k m l ih H W E n bs a ha so sw q co cw bo bw fo fw Ls h1 h2 h3 h4 h5 h6 h7
  obtain ⟨k1, m1, l1, s1, rfl, e1', hs1⟩ := ha.inv
  injection e1' with q1 q2 q3; subst q1; subst q2; subst q3
  exact grow_step ho W0 W E n k m l s1 bs hs1 so sw q co cw bo bw fo fw Ls h1 h2 h3 h4 h5 h6 h7 ih
end Go.Proofs.Ytenfjdkeikjhlaa.Vs
