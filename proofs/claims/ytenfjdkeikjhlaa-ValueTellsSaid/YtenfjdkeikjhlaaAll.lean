/-
  value.all, with the closure of value.Chans.
-/
import Derived.Test.YtenfjdkeikjhlaaMore
set_option autoImplicit false
set_option linter.unusedVariables false
set_option linter.unusedSimpArgs false
namespace Go.Proofs.Ytenfjdkeikjhlaa.Vs
open Go.VI Go.Proofs
variable {orc : CallF}
theorem src_same {H H' : AH} {l : List V} {s : AV} {a b : List AV} (E : Ext H H') (h : SA H l s) (h1 : srcCells H 3 s = some (l.length, a)) (h2 : srcCells H' 3 s = some (l.length, b)) : a = b := by
  cases h with
  | nil => simp only [srcCells] at h1 h2; injection h1 with h1; injection h2 with h2; rw [← (Prod.mk.inj h1).2, ← (Prod.mk.inj h2).2]
  | sl _ loc off cap cs hr hc hb h =>
    simp only [srcCells, hr, E.read hr] at h1 h2
    injection h1 with h1; injection h2 with h2; rw [← (Prod.mk.inj h1).2, ← (Prod.mk.inj h2).2]
set_option maxRecDepth 100000 in
set_option maxHeartbeats 4000000 in
theorem all_fin (ho : NoOrcBut [9, 35, 36] orc) {H0 HS : AH} (W0 : Wf H0) (WS : Wf HS) (ES : Ext H0 HS) (ka na : Int) (la : List V) (sa : AV) (hS : SA H0 la sa) (cb : Nat) (hcb : HS.at cb = some (.row [.nils] 28 false none)) (hcb0 : H0.n ≤ cb) (hN0 : (V.mk ka na la).cnt ≤ 1000000) : Fin Try.prog orc 33 [.agg [.int .i64 (ka), .int .i64 (na), sa], (.fn (.func 34) [] [.ptr (.mt cb) 0])] HS (fun r H' => ∃ l b f, Cell H0 H' cb l b f ∧ Wf H' ∧ (∀ q, q ∈ l ↔ q ∈ V.ch (.mk ka na la)) ∧ l.length ≤ 1000000 ∧ Ext H0 H') := by
  have E0 := ES
  have hN1 := hN0; simp only [V.cnt] at hN1; have hV1 : (V.mk ka na la).cnt = 1 + V.cnts la := rfl; obtain ⟨CC, hCC⟩ : ∃ c, c = V.chs [.mk ka na la] := ⟨_, rfl⟩; have hbs0 := hS.bound
  refine fin_of Try.func33 rfl (by rw [Try.ntmps33]; simp) (ho _ rfl _ _) ?_
  rw [Try.ntmps33]
  refine w_seq ?_
  refine w_region ?_
  refine o_nw WS (a_box (by simp only [ev, envOf, val_set, ofValue, ofCell, ↓reduceIte, Nat.reduceEqDiff] <;> rfl)) rfl rfl rfl (by simp) ?_; intro H1 n1 W1 X1 A1
  have A1 : H1.at HS.n = some (.row [.int .i64 (ka), .int .i64 (na), sa] 24 false none) := A1
  have E1 := E0.trans X1
  have g1 : H0.n ≤ HS.n := E0.n
  refine o_nil ?_
  first | refine w_scope rfl ?_ | refine w_scope ?_
  refine w_seq ?_
  refine w_region ?_
  refine o_rd (r_loadN (cs := [.int .i64 (ka), .int .i64 (na), sa]) Ty.agg24 Ty.csz24 (by simp only [ev, envOf, val_set, ofValue, ofCell, ↓reduceIte, Nat.reduceEqDiff] <;> rfl) (read_mt A1 (Nat.le_of_ble_eq_true rfl))) rfl rfl ?_
  have lcbq := W1.lt ((X1).keep _ _ hcb)
  refine o_nw W1 (a_build1 Try.underlying22 Ty.csz24 Ty.zero24 rfl (by simp only [ev, envOf, val_set, ofValue, ofCell, ↓reduceIte, Nat.reduceEqDiff] <;> rfl) rfl (by decide)) rfl rfl rfl (by simp) ?_; intro H2 n2 W2 X2 A2
  have E2 := E1.trans X2
  have O0 : Own H2 24 3 (freshSl (H1.n) 1 1) 1 [.int .i64 ka, .int .i64 na, sa] (H1.n) none := own_fresh (n := 1) (e := 3) A2 rfl
  have hN0s : New H0 (H1.n) none := ⟨E1.n, fun f h => by cases h⟩
  have hC0 : Cell H0 H2 cb [] cb none := ⟨.nils, X2.keep _ _ (X1.keep _ _ hcb), .inl ⟨rfl, rfl⟩, ⟨hcb0, fun f h => by cases h⟩, hcb0⟩
  have hAp0 : Apart cb none (H1.n) none := ⟨by omega, .inl rfl⟩
  refine o_rd (r_assign (by simp only [ev, envOf, val_set, ofValue, ofCell, ↓reduceIte, Nat.reduceEqDiff] <;> rfl)) rfl rfl ?_
  refine o_nil ?_
  refine w_seq ?_
  refine w_label ?_
  refine w_block ?_
  refine w_loop (fun m s => ∃ (e : Env) (H : AH) (st : List V) (sl : AV) (bs : Nat) (fs : Option Nat) (cs : List AV) (l : List Int) (b : Nat) (f : Option Nat), s = ⟨e, H, []⟩ ∧ e.val 1 = (.fn (.func 34) [] [.ptr (.mt cb) 0]) ∧ e.val 4 = sl ∧ Wf H ∧ Ext H0 H ∧ (Own H 24 3 sl st.length cs bs fs) ∧ (New H0 bs fs) ∧ (LA H0 st cs) ∧ (V.cnts st = m) ∧ (Cell H0 H cb l b f) ∧ (Apart b f bs fs) ∧ (bs ≠ cb) ∧ (b < H.n) ∧ (∀ g, f = some g → g < H.n) ∧ (l.length + V.cnts st ≤ (V.mk ka na la).cnt) ∧ (∀ q, (q ∈ l ∨ q ∈ V.chs st) ↔ q ∈ CC)) ((V.mk ka na la).cnt) ⟨_, H2, [.mk ka na la], _, H1.n, none, _, [], cb, none, rfl, (by simp only [val_set, ↓reduceIte, Nat.reduceEqDiff] <;> rfl), (by simp only [val_set, ↓reduceIte, Nat.reduceEqDiff] <;> rfl), W2, E2, O0, hN0s, (LA.one (.mk _ _ _ _ hS)), (by simp [V.cnts]), hC0, hAp0, (by omega), (by omega), (fun g e => by cases e), (by simp [V.cnts]), (by rw [hCC]; simp)⟩ ?_
  intro m s hi
  obtain ⟨e, H3, st, sl, bs, fs, cs, l, b, f, rfl, v1, v4, W3, E3, O, hN, hL, hm, hC, hAp, hbc, hlb, hlf, hll, hmem⟩ := hi
  have hls := V.len_cnts st
  refine w_seq ?_
  refine w_seq ?_
  refine w_region ?_
  refine o_rd (r_move (by simp only [ev, envOf, val_set, ofValue, ofCell, ↓reduceIte, Nat.reduceEqDiff, v1, v4] <;> rfl)) rfl rfl ?_
  refine o_rd (r_len (n := st.length) Try.underlying22 (by simp only [ev, envOf, val_set, ofValue, ofCell, ↓reduceIte, Nat.reduceEqDiff, v1, v4] <;> rfl) (own_lenOf O)) rfl rfl ?_
  refine o_rd (r_gt (a := ((st.length : Nat) : Int)) (b := 0) (by simp only [ev, envOf, val_set, ofValue, ofCell, ↓reduceIte, Nat.reduceEqDiff, v1, v4] <;> rfl) (by simp only [ev, envOf, val_set, ofValue, ofCell, ↓reduceIte, Nat.reduceEqDiff, v1, v4] <;> rfl)) rfl rfl ?_
  refine o_nil ?_
  refine w_cond (by simp only [ev, envOf, val_set, ofValue, ofCell, ↓reduceIte, Nat.reduceEqDiff, v1, v4] <;> rfl) (fun hc4 => ?_) (fun hc4 => ?_)
  · have hc4 := dec_t hc4
    refine w_skip ?_
    refine w_block ?_
    refine w_seq ?_
    refine w_region ?_
    obtain ⟨x, st, rfl⟩ : ∃ x r, st = r ++ [x] := ⟨st.getLast (by intro h; subst h; simp at *), st.dropLast, (List.dropLast_concat_getLast _).symm⟩
    rw [List.length_append, List.length_singleton] at O
    obtain ⟨c1, ax, rfl, hL1, hx⟩ := hL.append_inv
    obtain ⟨xk, xn, xl, xs, rfl, rfl, hxs⟩ := hx.one_inv.inv
    obtain ⟨os, cp, rfl, hcp, RS⟩ := O.read
    have hc1 : c1.length = st.length * 3 := hL1.len
    rw [V.cnts_append] at hm hll; simp only [V.cnts, V.cnt] at hm hll
    have hmem1 : ∀ q, (q ∈ l ∨ (xk = 5 ∧ 0 < xn ∧ q = xn) ∨ q ∈ V.chs st ∨ q ∈ V.chs xl) ↔ q ∈ CC := fun q => by
      rw [← hmem q, V.chs_append]; simp only [V.chs, List.mem_append, List.append_nil, V.mem_ch]
      constructor <;> (rintro (h | h | h | h) <;> simp [h])
    replace hls := V.len_cnts st; have hlx := V.len_cnts xl; have hbx := hxs.bound
    have rS : H3.read (.mt bs) (os + st.length * 3) 3 = some [.int .i64 xk, .int .i64 xn, xs] := by rw [read_part RS (by omega), ← hc1, List.drop_left]; rfl
    have hap0 : bs ≠ H3.n := by have := O.lt W3; omega
    have lcbh : cb < H3.n := by obtain ⟨_, h, _⟩ := hC; exact W3.lt h
    refine o_rd (r_move (by simp only [ev, envOf, val_set, ofValue, ofCell, ↓reduceIte, Nat.reduceEqDiff, v1, v4] <;> rfl)) rfl rfl ?_
    refine o_rd (r_move (by simp only [ev, envOf, val_set, ofValue, ofCell, ↓reduceIte, Nat.reduceEqDiff, v1, v4] <;> rfl)) rfl rfl ?_
    refine o_rd (r_len (n := st.length + 1) Try.underlying22 (by simp only [ev, envOf, val_set, ofValue, ofCell, ↓reduceIte, Nat.reduceEqDiff, v1, v4] <;> rfl) rfl) rfl rfl ?_
    refine o_rd (r_subE (a := ((st.length + 1 : Nat) : Int)) (b := 1) (c := ((st.length : Nat) : Int)) (by simp only [ev, envOf, val_set, ofValue, ofCell, ↓reduceIte, Nat.reduceEqDiff, v1, v4] <;> rfl) (by simp only [ev, envOf, val_set, ofValue, ofCell, ↓reduceIte, Nat.reduceEqDiff, v1, v4] <;> rfl) (by omega) (by omega) (by omega)) rfl rfl ?_
    refine o_rd (r_indexAddr Try.underlying22 Ty.csz24 (by simp only [ev, envOf, val_set, ofValue, ofCell, ↓reduceIte, Nat.reduceEqDiff, v1, v4] <;> rfl) (by simp only [ev, envOf, val_set, ofValue, ofCell, ↓reduceIte, Nat.reduceEqDiff, v1, v4] <;> rfl) (by omega)) rfl rfl ?_
    refine o_rd (r_loadN Ty.agg24 Ty.csz24 (by simp only [ev, envOf, val_set, ofValue, ofCell, ↓reduceIte, Nat.reduceEqDiff, v1, v4] <;> rfl) rS) rfl rfl ?_
    refine o_nw W3 (a_alloc Ty.zero24) rfl rfl rfl (by simp) ?_; intro H5 n5 W5 X5 A5
    have A5 : H5.at H3.n = some (.row [.int .i64 (0), .int .i64 (0), .nils] 24 false none) := A5
    have E5 := E3.trans X5
    have g5 : H0.n ≤ H3.n := E3.n
    refine o_st W5 (by simp only [ev, envOf, val_set, ofValue, ofCell, ↓reduceIte, Nat.reduceEqDiff, v1, v4] <;> rfl) (by simp only [ev, envOf, val_set, ofValue, ofCell, ↓reduceIte, Nat.reduceEqDiff, v1, v4] <;> rfl) A5 Ty.csz24 rfl (Nat.le_of_ble_eq_true rfl) (by exact ones3 (SA.one' hxs)) rfl rfl ?_; intro H6 n6 W6 A6 K6
    have A6 : H6.at H3.n = some (.row [.int .i64 (xk), .int .i64 (xn), xs] 24 false none) := A6
    have E6 := Ext.put W0 E5 (by have := E5.n; omega) K6 n6 W6
    refine o_nil ?_
    refine w_seq ?_
    refine w_region ?_
    replace O := (O.ext X5).keep (H' := H6) (fun x hx hf => K6.own hx hap0)
    replace hC := hC.loc W3 X5 K6
    refine o_rd (r_move (by simp only [ev, envOf, val_set, ofValue, ofCell, ↓reduceIte, Nat.reduceEqDiff, v1, v4] <;> rfl)) rfl rfl ?_
    refine o_rd (r_move (by simp only [ev, envOf, val_set, ofValue, ofCell, ↓reduceIte, Nat.reduceEqDiff, v1, v4] <;> rfl)) rfl rfl ?_
    refine o_rd (r_len (n := st.length + 1) Try.underlying22 (by simp only [ev, envOf, val_set, ofValue, ofCell, ↓reduceIte, Nat.reduceEqDiff, v1, v4] <;> rfl) rfl) rfl rfl ?_
    refine o_rd (r_subE (a := ((st.length + 1 : Nat) : Int)) (b := 1) (c := ((st.length : Nat) : Int)) (by simp only [ev, envOf, val_set, ofValue, ofCell, ↓reduceIte, Nat.reduceEqDiff, v1, v4] <;> rfl) (by simp only [ev, envOf, val_set, ofValue, ofCell, ↓reduceIte, Nat.reduceEqDiff, v1, v4] <;> rfl) (by omega) (by omega) (by omega)) rfl rfl ?_
    refine o_rd (r_sliceTo (j := st.length) Try.underlying22 Ty.csz24 (by simp only [ev, envOf, val_set, ofValue, ofCell, ↓reduceIte, Nat.reduceEqDiff, v1, v4] <;> rfl) (by simp only [ev, envOf, val_set, ofValue, ofCell, ↓reduceIte, Nat.reduceEqDiff, v1, v4] <;> rfl) (by omega) O.cutOk) rfl rfl ?_
    have O1 := own_cut O (Nat.le_succ st.length)
    rw [← hc1, List.take_left] at O1
    refine o_rd (r_assign (by simp only [ev, envOf, val_set, ofValue, ofCell, ↓reduceIte, Nat.reduceEqDiff, v1, v4] <;> rfl)) rfl rfl ?_
    refine o_nil ?_
    refine w_seq ?_
    refine w_seq ?_
    refine w_region ?_
    refine o_rd (r_move (by simp only [ev, envOf, val_set, ofValue, ofCell, ↓reduceIte, Nat.reduceEqDiff, v1, v4] <;> rfl)) rfl rfl ?_
    refine o_rd (r_loadN (cs := [.int .i64 (xk), .int .i64 (xn), xs]) Ty.agg24 Ty.csz24 (by simp only [ev, envOf, val_set, ofValue, ofCell, ↓reduceIte, Nat.reduceEqDiff, v1, v4] <;> rfl) (read_mt A6 (Nat.le_of_ble_eq_true rfl))) rfl rfl ?_
    obtain ⟨sv, hcv, hlv, hNv, hcv0⟩ := hC
    refine o_cl rfl (by simp only [ev, envOf, val_set, ofValue, ofCell, ↓reduceIte, Nat.reduceEqDiff, v1, v4] <;> rfl) (by simp only [evs, ev, envOf, val_set, ofValue, ofCell, ↓reduceIte, Nat.reduceEqDiff, v1, v4] <;> rfl) rfl (more_fin ho W0 W6 E6 xk xn xs (SA.one' hxs) cb b l f sv hcv hlv hNv hcv0 (by omega)) rfl rfl ?_; rintro _ H7 ⟨rfl, l2, b2, f2, hC2, M2, hq2, hk2⟩
    have W7 := M2.wf; have E7 := M2.ext; have n7 := M2.n
    have O2 := M2.other O1 hbc hAp
    have hAp2 := M2.apart W6 O1 hAp
    have l5 := W6.lt A6
    have hb2 := M2.hl (by omega)
    have hf2 := M2.hlf (fun g e => by have := hlf g e; omega)
    have A6 := M2.keep _ _ A6 (by omega) (by omega) (.inl rfl)
    refine o_rd (r_not (by simp only [ev, envOf, val_set, ofValue, ofCell, ↓reduceIte, Nat.reduceEqDiff, v1, v4] <;> rfl)) rfl rfl ?_
    refine o_nil ?_
    refine w_cond (t := false) (by simp only [ev, envOf, val_set, ofValue, ofCell, ↓reduceIte, Nat.reduceEqDiff, v1, v4] <;> rfl) (fun h => by cases h) (fun _ => ?_)
    refine w_skip ?_
    refine w_region ?_
    refine o_rd (r_move (by simp only [ev, envOf, val_set, ofValue, ofCell, ↓reduceIte, Nat.reduceEqDiff, v1, v4] <;> rfl)) rfl rfl ?_
    refine o_rd (r_fieldAddr Ty.fo24_2 (by simp only [ev, envOf, val_set, ofValue, ofCell, ↓reduceIte, Nat.reduceEqDiff, v1, v4] <;> rfl)) rfl rfl ?_
    refine o_rd (r_load1 (v := xs) Ty.agg22 (by simp only [ev, envOf, val_set, ofValue, ofCell, ↓reduceIte, Nat.reduceEqDiff, v1, v4] <;> rfl) (read_mt A6 (Nat.le_of_ble_eq_true rfl))) rfl rfl ?_
    obtain ⟨cx, hsx, hLx0⟩ := SA.srcs (hxs.ext E7); have hlcx := hLx0.len
    obtain ⟨cx2, hsx2, hLx⟩ := SA.srcs hxs; obtain rfl : cx = cx2 := (src_same E7 hxs hsx2 hsx).symm
    refine o_ap W7 Try.underlying22 Try.underlying22 rfl Ty.csz24 Ty.byt24 Ty.zero24 rfl (by simp only [ev, envOf, val_set, ofValue, ofCell, ↓reduceIte, Nat.reduceEqDiff, v1, v4] <;> rfl) (by simp only [ev, envOf, val_set, ofValue, ofCell, ↓reduceIte, Nat.reduceEqDiff, v1, v4] <;> rfl) O2 hsx (by omega) hLx.ones (by omega) rfl rfl ?_; intro s3 H8 bs3 fs3 O3 W8 l8 u8 p8 q8 K8
    have E8 := Ext.keeps W0 E7 hN K8 l8 W8
    have hN3 := hN.step E7.n p8 q8
    have hC3 := hC2.beside K8 hbc hAp2
    have hAp3 := hAp2.symm.step (H := H7) hb2 hf2 p8 q8
    replace hAp3 := hAp3.symm
    have hbc3 : bs3 ≠ cb := by rcases p8 with h | h <;> omega
    have hlb3 : b2 < H8.n := by omega
    have hlf3 : ∀ g, f2 = some g → g < H8.n := fun g e => by have := hf2 g e; omega
    have hmem3 : ∀ q, (q ∈ l2 ∨ q ∈ V.chs (st ++ xl)) ↔ q ∈ CC := fun q => by
      rw [← hmem1 q, hq2 q, V.chs_append, List.mem_append]; constructor
      · rintro ((h | h) | h | h) <;> simp [h]
      · rintro (h | h | h | h) <;> simp [h]
    refine o_rd (r_assign (by simp only [ev, envOf, val_set, ofValue, ofCell, ↓reduceIte, Nat.reduceEqDiff, v1, v4] <;> rfl)) rfl rfl ?_
    refine o_nil ?_
    exact ⟨V.cnts (st ++ xl), (by rw [V.cnts_append]; omega), _, H8, st ++ xl, s3, bs3, fs3, (c1 ++ cx), l2, b2, f2, rfl, (by simp only [val_set, ↓reduceIte, Nat.reduceEqDiff, v1, v4] <;> rfl), (by simp only [val_set, ↓reduceIte, Nat.reduceEqDiff, v1, v4] <;> rfl), W8, E8, (by rw [List.length_append]; exact O3), hN3, (hL1.append hLx), rfl, hC3, hAp3, hbc3, hlb3, hlf3, (by rw [V.cnts_append]; omega), hmem3⟩
  · have hc4 := dec_f hc4
    first | refine w_exit (blk_exit ?_) | refine w_exit (show (0 = 0 → _) ∧ (0 ≠ 0 → _) from ⟨fun _ => ?_, fun c => absurd rfl c⟩)
    refine ⟨.inl rfl, rfl, .tup [], (show resultA Try.prog [] _ = _ by simp only [resultA, resultsA, envOf, val_set, ↓reduceIte, Nat.reduceEqDiff, Option.map_some, v1, v4] <;> rfl), ?_⟩
    try dsimp only
    have hst : st = [] := List.eq_nil_of_length_eq_zero (by omega); subst hst; exact ⟨l, b, f, hC, W3, (fun q => by have := hmem q; rw [hCC] at this; simpa [V.chs] using this), (by omega), E3⟩
end Go.Proofs.Ytenfjdkeikjhlaa.Vs
