/-
  Chans of the reference.
-/
import Derived.Test.YtenfjdkeikjhlaaSizeR
import Derived.Test.YtenfjdkeikjhlaaPut
set_option autoImplicit false
set_option linter.unusedVariables false
set_option linter.unusedSimpArgs false
namespace Go.VI
mutual
def V.ch : V → List Int
  | .mk k n l => (if k = 5 ∧ 0 < n then [n] else []) ++ V.chs l
def V.chs : List V → List Int
  | [] => []
  | x :: r => V.ch x ++ V.chs r
end
theorem V.chs_append : ∀ a b : List V, V.chs (a ++ b) = V.chs a ++ V.chs b
  | [], b => rfl
  | x :: a, b => by simp only [List.cons_append, V.chs, V.chs_append a b, List.append_assoc]
theorem V.mem_ch {k n q : Int} {l : List V} : q ∈ V.ch (.mk k n l) ↔ (k = 5 ∧ 0 < n ∧ q = n) ∨ q ∈ V.chs l := by
  simp only [V.ch, List.mem_append]
  split
  · rename_i h; simp only [List.mem_singleton]; constructor
    · rintro (h1 | h1)
      · exact .inl ⟨h.1, h.2, h1⟩
      · exact .inr h1
    · rintro (h1 | h1)
      · exact .inl h1.2.2
      · exact .inr h1
  · rename_i h; simp only [List.not_mem_nil, false_or]; constructor
    · exact .inr
    · rintro (h1 | h1)
      · exact absurd ⟨h1.1, h1.2.1⟩ h
      · exact h1
end Go.VI
namespace Go.Proofs.Ytenfjdkeikjhlaa.Vs
open Go.VI Go.Proofs
variable {orc : CallF}
set_option maxRecDepth 100000 in
set_option maxHeartbeats 4000000 in
theorem chansR_fin (ho : NoOrcBut [9, 35, 36] orc) {H0 : AH} (W0 : Wf H0) (ka na : Int) (la : List V) (sa : AV) (hS : SA H0 la sa) (hN0 : (V.mk ka na la).cnt ≤ 1000000) : Fin Try.prog orc 20 [.agg [.int .i64 (ka), .int .i64 (na), sa]] H0 (fun r H' => ∃ l s b f, s = r ∧ Own H' 3 1 s l.length (l.map (AV.int .i64)) b f ∧ New H0 b f ∧ Rise l ∧ (∀ q, q ∈ l ↔ q ∈ V.ch (.mk ka na la)) ∧ l.length ≤ 1000000 ∧ Ext H0 H') := by
  have E0 := Ext.refl W0
  have hN1 := hN0; simp only [V.cnt] at hN1; have hV1 : (V.mk ka na la).cnt = 1 + V.cnts la := rfl; obtain ⟨CC, hCC⟩ : ∃ c, c = V.chs [.mk ka na la] := ⟨_, rfl⟩
  refine fin_of Try.func20 rfl (by rw [Try.ntmps20]; simp) (ho _ rfl _ _) ?_
  rw [Try.ntmps20]
  refine w_seq ?_
  refine w_region ?_
  refine o_nw W0 (a_box (by simp only [ev, envOf, val_set, ofValue, ofCell, ↓reduceIte, Nat.reduceEqDiff] <;> rfl)) rfl rfl rfl (by simp) ?_; intro H1 n1 W1 X1 A1
  have A1 : H1.at H0.n = some (.row [.int .i64 (ka), .int .i64 (na), sa] 24 false none) := A1
  have E1 := E0.trans X1
  have g1 : H0.n ≤ H0.n := E0.n
  refine o_rd (r_assign (by simp only [ev, envOf, val_set, ofValue, ofCell, ↓reduceIte, Nat.reduceEqDiff] <;> rfl)) rfl rfl ?_
  refine o_nil ?_
  refine w_seq ?_
  refine w_region ?_
  refine o_nw W1 (a_build0 Try.underlying28 Ty.csz3 Ty.zero3 rfl) rfl rfl rfl (by simp) ?_; intro H2 n2 W2 X2 A2
  have E2 := E1.trans X2
  have Oo0 : Own H2 3 1 (freshSl (H1.n) 0 0) 0 [] (H1.n) none := own_fresh (n := 0) (e := 1) A2 rfl
  have hNo0 : New H0 (H1.n) none := ⟨E1.n, fun f h => by cases h⟩
  have A1 := X2.keep _ _ A1
  refine o_rd (r_assign (by simp only [ev, envOf, val_set, ofValue, ofCell, ↓reduceIte, Nat.reduceEqDiff] <;> rfl)) rfl rfl ?_
  refine o_nil ?_
  refine w_seq ?_
  refine w_region ?_
  refine o_rd (r_loadN (cs := [.int .i64 (ka), .int .i64 (na), sa]) Ty.agg24 Ty.csz24 (by simp only [ev, envOf, val_set, ofValue, ofCell, ↓reduceIte, Nat.reduceEqDiff] <;> rfl) (read_mt A1 (Nat.le_of_ble_eq_true rfl))) rfl rfl ?_
  refine o_nw W2 (a_build1 Try.underlying22 Ty.csz24 Ty.zero24 rfl (by simp only [ev, envOf, val_set, ofValue, ofCell, ↓reduceIte, Nat.reduceEqDiff] <;> rfl) rfl (by decide)) rfl rfl rfl (by simp) ?_; intro H3 n3 W3 X3 A3
  have E3 := E2.trans X3
  have O0 : Own H3 24 3 (freshSl (H2.n) 1 1) 1 [.int .i64 ka, .int .i64 na, sa] (H2.n) none := own_fresh (n := 1) (e := 3) A3 rfl
  have hN0s : New H0 (H2.n) none := ⟨E2.n, fun f h => by cases h⟩
  replace Oo0 := Oo0.ext X3
  have hAp0 : Apart (H1.n) none (H2.n) none := ⟨by omega, .inl rfl⟩
  refine o_rd (r_assign (by simp only [ev, envOf, val_set, ofValue, ofCell, ↓reduceIte, Nat.reduceEqDiff] <;> rfl)) rfl rfl ?_
  refine o_nil ?_
  refine w_seq ?_
  refine w_block ?_
  refine w_loop (fun m s => ∃ (e : Env) (H : AH) (st : List V) (sl : AV) (bs : Nat) (fs : Option Nat) (cs : List AV) (lo : List Int) (so : AV) (bo : Nat) (fo : Option Nat), s = ⟨e, H, []⟩ ∧ e.val 2 = .nils ∧ e.val 3 = so ∧ e.val 4 = sl ∧ Wf H ∧ Ext H0 H ∧ (Own H 24 3 sl st.length cs bs fs) ∧ (New H0 bs fs) ∧ (LA H0 st cs) ∧ (V.cnts st = m) ∧ (Own H 3 1 so lo.length (lo.map (AV.int .i64)) bo fo) ∧ (New H0 bo fo) ∧ (Apart bo fo bs fs) ∧ (Rise lo) ∧ (lo.length + V.cnts st ≤ (V.mk ka na la).cnt) ∧ (∀ q, (q ∈ lo ∨ q ∈ V.chs st) ↔ q ∈ CC)) ((V.mk ka na la).cnt) ⟨_, H3, [.mk ka na la], _, H2.n, none, _, [], _, H1.n, none, rfl, (by simp only [val_set, ↓reduceIte, Nat.reduceEqDiff] <;> rfl), (by simp only [val_set, ↓reduceIte, Nat.reduceEqDiff] <;> rfl), (by simp only [val_set, ↓reduceIte, Nat.reduceEqDiff] <;> rfl), W3, E3, O0, hN0s, (LA.one (.mk _ _ _ _ hS)), (by simp [V.cnts]), Oo0, hNo0, hAp0, List.Pairwise.nil, (by simp [V.cnts]), (by rw [hCC]; simp)⟩ ?_
  intro m s hi
  obtain ⟨e, H4, st, sl, bs, fs, cs, lo, so, bo, fo, rfl, v2, v3, v4, W4, E4, O, hN, hL, hm, Oo, hNo, hAp, hRi, hll, hmem⟩ := hi
  have hls := V.len_cnts st
  refine w_seq ?_
  refine w_seq ?_
  refine w_region ?_
  refine o_rd (r_move (by simp only [ev, envOf, val_set, ofValue, ofCell, ↓reduceIte, Nat.reduceEqDiff, v2, v3, v4] <;> rfl)) rfl rfl ?_
  refine o_rd (r_len (n := st.length) Try.underlying22 (by simp only [ev, envOf, val_set, ofValue, ofCell, ↓reduceIte, Nat.reduceEqDiff, v2, v3, v4] <;> rfl) (own_lenOf O)) rfl rfl ?_
  refine o_rd (r_gt (a := ((st.length : Nat) : Int)) (b := 0) (by simp only [ev, envOf, val_set, ofValue, ofCell, ↓reduceIte, Nat.reduceEqDiff, v2, v3, v4] <;> rfl) (by simp only [ev, envOf, val_set, ofValue, ofCell, ↓reduceIte, Nat.reduceEqDiff, v2, v3, v4] <;> rfl)) rfl rfl ?_
  refine o_nil ?_
  refine w_cond (by simp only [ev, envOf, val_set, ofValue, ofCell, ↓reduceIte, Nat.reduceEqDiff, v2, v3, v4] <;> rfl) (fun hc5 => ?_) (fun hc5 => ?_)
  · have hc5 := dec_t hc5
    refine w_skip ?_
    refine w_block ?_
    refine w_seq ?_
    refine w_region ?_
    obtain ⟨x, st, rfl⟩ : ∃ x r, st = r ++ [x] := ⟨st.getLast (by intro h; subst h; simp at *), st.dropLast, (List.dropLast_concat_getLast _).symm⟩
    rw [List.length_append, List.length_singleton] at O
    obtain ⟨c1, ax, rfl, hL1, hx⟩ := hL.append_inv
    obtain ⟨xk, xn, xl, xs, rfl, rfl, hxs⟩ := hx.one_inv.inv
    obtain ⟨os, cp, rfl, hcp, RS⟩ := O.read
    have hc1 : c1.length = st.length * 3 := hL1.len
    rw [V.cnts_append] at hm hll; simp only [V.cnts, V.cnt] at hm hll
    have hmem1 : ∀ q, (q ∈ lo ∨ (xk = 5 ∧ 0 < xn ∧ q = xn) ∨ q ∈ V.chs st ∨ q ∈ V.chs xl) ↔ q ∈ CC := fun q => by
      rw [← hmem q, V.chs_append]; simp only [V.chs, List.mem_append, List.append_nil, V.mem_ch]
      constructor <;> (rintro (h | h | h | h) <;> simp [h])
    obtain ⟨M, hM⟩ : ∃ M, M = m := ⟨m, rfl⟩
    replace hls := V.len_cnts st; have hlx := V.len_cnts xl; have hbx := hxs.bound
    have rS : H4.read (.mt bs) (os + st.length * 3) 3 = some [.int .i64 xk, .int .i64 xn, xs] := by rw [read_part RS (by omega), ← hc1, List.drop_left]; rfl
    have hap0 : bs ≠ H4.n := by have := O.lt W4; omega
    have hao0 : bo ≠ H4.n := by have := Oo.lt W4; omega
    refine o_rd (r_move (by simp only [ev, envOf, val_set, ofValue, ofCell, ↓reduceIte, Nat.reduceEqDiff, v2, v3, v4] <;> rfl)) rfl rfl ?_
    refine o_rd (r_move (by simp only [ev, envOf, val_set, ofValue, ofCell, ↓reduceIte, Nat.reduceEqDiff, v2, v3, v4] <;> rfl)) rfl rfl ?_
    refine o_rd (r_len (n := st.length + 1) Try.underlying22 (by simp only [ev, envOf, val_set, ofValue, ofCell, ↓reduceIte, Nat.reduceEqDiff, v2, v3, v4] <;> rfl) rfl) rfl rfl ?_
    refine o_rd (r_subE (a := ((st.length + 1 : Nat) : Int)) (b := 1) (c := ((st.length : Nat) : Int)) (by simp only [ev, envOf, val_set, ofValue, ofCell, ↓reduceIte, Nat.reduceEqDiff, v2, v3, v4] <;> rfl) (by simp only [ev, envOf, val_set, ofValue, ofCell, ↓reduceIte, Nat.reduceEqDiff, v2, v3, v4] <;> rfl) (by omega) (by omega) (by omega)) rfl rfl ?_
    refine o_rd (r_indexAddr Try.underlying22 Ty.csz24 (by simp only [ev, envOf, val_set, ofValue, ofCell, ↓reduceIte, Nat.reduceEqDiff, v2, v3, v4] <;> rfl) (by simp only [ev, envOf, val_set, ofValue, ofCell, ↓reduceIte, Nat.reduceEqDiff, v2, v3, v4] <;> rfl) (by omega)) rfl rfl ?_
    refine o_rd (r_loadN Ty.agg24 Ty.csz24 (by simp only [ev, envOf, val_set, ofValue, ofCell, ↓reduceIte, Nat.reduceEqDiff, v2, v3, v4] <;> rfl) rS) rfl rfl ?_
    refine o_nw W4 (a_alloc Ty.zero24) rfl rfl rfl (by simp) ?_; intro H6 n6 W6 X6 A6
    have A6 : H6.at H4.n = some (.row [.int .i64 (0), .int .i64 (0), .nils] 24 false none) := A6
    have E6 := E4.trans X6
    have g6 : H0.n ≤ H4.n := E4.n
    refine o_st W6 (by simp only [ev, envOf, val_set, ofValue, ofCell, ↓reduceIte, Nat.reduceEqDiff, v2, v3, v4] <;> rfl) (by simp only [ev, envOf, val_set, ofValue, ofCell, ↓reduceIte, Nat.reduceEqDiff, v2, v3, v4] <;> rfl) A6 Ty.csz24 rfl (Nat.le_of_ble_eq_true rfl) (by exact ones3 (SA.one' hxs)) rfl rfl ?_; intro H7 n7 W7 A7 K7
    have A7 : H7.at H4.n = some (.row [.int .i64 (xk), .int .i64 (xn), xs] 24 false none) := A7
    have E7 := Ext.put W0 E6 (by have := E6.n; omega) K7 n7 W7
    refine o_nil ?_
    refine w_seq ?_
    refine w_region ?_
    replace O := (O.ext X6).keep (H' := H7) (fun x hx hf => K7.own hx hap0)
    replace Oo := (Oo.ext X6).keep (H' := H7) (fun x hx hf => K7.own hx hao0)
    refine o_rd (r_move (by simp only [ev, envOf, val_set, ofValue, ofCell, ↓reduceIte, Nat.reduceEqDiff, v2, v3, v4] <;> rfl)) rfl rfl ?_
    refine o_rd (r_move (by simp only [ev, envOf, val_set, ofValue, ofCell, ↓reduceIte, Nat.reduceEqDiff, v2, v3, v4] <;> rfl)) rfl rfl ?_
    refine o_rd (r_len (n := st.length + 1) Try.underlying22 (by simp only [ev, envOf, val_set, ofValue, ofCell, ↓reduceIte, Nat.reduceEqDiff, v2, v3, v4] <;> rfl) rfl) rfl rfl ?_
    refine o_rd (r_subE (a := ((st.length + 1 : Nat) : Int)) (b := 1) (c := ((st.length : Nat) : Int)) (by simp only [ev, envOf, val_set, ofValue, ofCell, ↓reduceIte, Nat.reduceEqDiff, v2, v3, v4] <;> rfl) (by simp only [ev, envOf, val_set, ofValue, ofCell, ↓reduceIte, Nat.reduceEqDiff, v2, v3, v4] <;> rfl) (by omega) (by omega) (by omega)) rfl rfl ?_
    refine o_rd (r_sliceTo (j := st.length) Try.underlying22 Ty.csz24 (by simp only [ev, envOf, val_set, ofValue, ofCell, ↓reduceIte, Nat.reduceEqDiff, v2, v3, v4] <;> rfl) (by simp only [ev, envOf, val_set, ofValue, ofCell, ↓reduceIte, Nat.reduceEqDiff, v2, v3, v4] <;> rfl) (by omega) O.cutOk) rfl rfl ?_
    have O1 := own_cut O (Nat.le_succ st.length)
    rw [← hc1, List.take_left] at O1
    refine o_rd (r_assign (by simp only [ev, envOf, val_set, ofValue, ofCell, ↓reduceIte, Nat.reduceEqDiff, v2, v3, v4] <;> rfl)) rfl rfl ?_
    refine o_nil ?_
    refine w_seq ?_
    refine w_seq ?_
    refine w_region ?_
    refine o_rd (r_assign (by simp only [ev, envOf, val_set, ofValue, ofCell, ↓reduceIte, Nat.reduceEqDiff, v2, v3, v4] <;> rfl)) rfl rfl ?_
    refine o_nil ?_
    refine w_block ?_
    refine w_loop (fun m s => ∃ (e : Env) (H : AH) (i : Nat) (st2 : List V) (sl2 : AV) (bs2 : Nat) (fs2 : Option Nat) (cs2 : List AV), s = ⟨e, H, []⟩ ∧ e.val 2 = .nils ∧ e.val 3 = so ∧ e.val 4 = sl2 ∧ e.val 5 = .ptr (.mt (H4.n)) (0) ∧ e.val 6 = .int .i64 (((i : Nat) : Int)) ∧ Wf H ∧ Ext H0 H ∧ H.at (H4.n) = some (.row [.int .i64 (xk), .int .i64 (xn), xs] 24 false none) ∧ (Own H 24 3 sl2 st2.length cs2 bs2 fs2) ∧ (New H0 bs2 fs2) ∧ (LA H0 st2 cs2) ∧ (i + m = xl.length) ∧ (lo.length + 1 + V.cnts st2 + V.cnts (xl.drop i) ≤ (V.mk ka na la).cnt) ∧ (V.cnts st2 + V.cnts (xl.drop i) + 1 = M) ∧ (bs2 ≠ H4.n) ∧ (Own H 3 1 so lo.length (lo.map (AV.int .i64)) bo fo) ∧ (Apart bo fo bs2 fs2) ∧ (∀ q, (q ∈ lo ∨ (xk = 5 ∧ 0 < xn ∧ q = xn) ∨ q ∈ V.chs st2 ∨ q ∈ V.chs (xl.drop i)) ↔ q ∈ CC)) (xl.length) ⟨_, H7, 0, st, _, bs, fs, c1, rfl, (by simp only [val_set, ↓reduceIte, Nat.reduceEqDiff, v2, v3, v4] <;> rfl), (by simp only [val_set, ↓reduceIte, Nat.reduceEqDiff, v2, v3, v4] <;> rfl), (by simp only [val_set, ↓reduceIte, Nat.reduceEqDiff, v2, v3, v4] <;> rfl), (by simp only [val_set, ↓reduceIte, Nat.reduceEqDiff, v2, v3, v4] <;> rfl), (by simp only [val_set, ↓reduceIte, Nat.reduceEqDiff, v2, v3, v4] <;> rfl), W7, E7, A7, O1, hN, hL1, (by omega), (by rw [List.drop_zero]; omega), (by rw [List.drop_zero]; omega), hap0, Oo, hAp, (by rw [List.drop_zero]; exact hmem1)⟩ ?_
    intro m s hi
    obtain ⟨e, H8, i, st2, sl2, bs2, fs2, cs2, rfl, v2, v3, v4, v5, v6, W8, E8, A7, O2, hN2, hL2, hi, hcn2, hme, hap, Oo2, hAp2, hmem2⟩ := hi
    have l8_0 := W8.lt A7
    have hls2 := V.len_cnts st2
    refine w_seq ?_
    refine w_seq ?_
    refine w_region ?_
    refine o_rd (r_move (by simp only [ev, envOf, val_set, ofValue, ofCell, ↓reduceIte, Nat.reduceEqDiff, v2, v3, v4, v5, v6] <;> rfl)) rfl rfl ?_
    refine o_rd (r_fieldAddr Ty.fo24_2 (by simp only [ev, envOf, val_set, ofValue, ofCell, ↓reduceIte, Nat.reduceEqDiff, v2, v3, v4, v5, v6] <;> rfl)) rfl rfl ?_
    refine o_rd (r_load1 (v := xs) Ty.agg22 (by simp only [ev, envOf, val_set, ofValue, ofCell, ↓reduceIte, Nat.reduceEqDiff, v2, v3, v4, v5, v6] <;> rfl) (read_mt A7 (Nat.le_of_ble_eq_true rfl))) rfl rfl ?_
    refine o_rd (r_len (n := xl.length) Try.underlying22 (by simp only [ev, envOf, val_set, ofValue, ofCell, ↓reduceIte, Nat.reduceEqDiff, v2, v3, v4, v5, v6] <;> rfl) hxs.lenOf) rfl rfl ?_
    refine o_rd (r_lt (a := ((i : Nat) : Int)) (b := ((xl.length : Nat) : Int)) (by simp only [ev, envOf, val_set, ofValue, ofCell, ↓reduceIte, Nat.reduceEqDiff, v2, v3, v4, v5, v6] <;> rfl) (by simp only [ev, envOf, val_set, ofValue, ofCell, ↓reduceIte, Nat.reduceEqDiff, v2, v3, v4, v5, v6] <;> rfl)) rfl rfl ?_
    refine o_nil ?_
    refine w_cond (by simp only [ev, envOf, val_set, ofValue, ofCell, ↓reduceIte, Nat.reduceEqDiff, v2, v3, v4, v5, v6] <;> rfl) (fun hc9 => ?_) (fun hc9 => ?_)
    · have hc9 := dec_t hc9
      refine w_skip ?_
      refine w_seq ?_
      refine w_block ?_
      refine w_region ?_
      have hi1 : i < xl.length := by omega
      obtain ⟨lox, ofx, cpx, cex, rfl, hrx, hvx⟩ := hxs.get hi1
      obtain ⟨yk, yn, yl, ys, rfl, hxe, hys⟩ := hvx.inv
      rw [List.drop_eq_getElem_cons hi1] at hcn2 hmem2 hme; simp only [V.cnts, V.chs, List.mem_append] at hcn2 hmem2 hme
      refine o_rd (r_move (by simp only [ev, envOf, val_set, ofValue, ofCell, ↓reduceIte, Nat.reduceEqDiff, v2, v3, v4, v5, v6] <;> rfl)) rfl rfl ?_
      refine o_rd (r_fieldAddr Ty.fo24_2 (by simp only [ev, envOf, val_set, ofValue, ofCell, ↓reduceIte, Nat.reduceEqDiff, v2, v3, v4, v5, v6] <;> rfl)) rfl rfl ?_
      refine o_rd (r_load1 (v := .sl lox (ofx) (xl.length) cpx) Ty.agg22 (by simp only [ev, envOf, val_set, ofValue, ofCell, ↓reduceIte, Nat.reduceEqDiff, v2, v3, v4, v5, v6] <;> rfl) (read_mt A7 (Nat.le_of_ble_eq_true rfl))) rfl rfl ?_
      refine o_rd (r_move (by simp only [ev, envOf, val_set, ofValue, ofCell, ↓reduceIte, Nat.reduceEqDiff, v2, v3, v4, v5, v6] <;> rfl)) rfl rfl ?_
      refine o_rd (r_indexAddr Try.underlying22 Ty.csz24 (by simp only [ev, envOf, val_set, ofValue, ofCell, ↓reduceIte, Nat.reduceEqDiff, v2, v3, v4, v5, v6] <;> rfl) (by simp only [ev, envOf, val_set, ofValue, ofCell, ↓reduceIte, Nat.reduceEqDiff, v2, v3, v4, v5, v6] <;> rfl) hi1) rfl rfl ?_
      refine o_rd (r_loadN Ty.agg24 Ty.csz24 (by simp only [ev, envOf, val_set, ofValue, ofCell, ↓reduceIte, Nat.reduceEqDiff, v2, v3, v4, v5, v6] <;> rfl) (E8.read hrx)) rfl rfl ?_
      refine o_nw W8 (a_build1 Try.underlying22 Ty.csz24 Ty.zero24 rfl (by simp only [ev, envOf, val_set, ofValue, ofCell, ↓reduceIte, Nat.reduceEqDiff, v2, v3, v4, v5, v6] <;> rfl) rfl (by decide)) rfl rfl rfl (by simp) ?_; intro H10 n10 W10 X10 A10
      have E10 := E8.trans X10
      have A7 := X10.keep _ _ A7
      replace O2 := O2.ext X10; replace Oo2 := Oo2.ext X10
      refine o_ap W10 Try.underlying22 Try.underlying22 rfl Ty.csz24 Ty.byt24 Ty.zero24 rfl (by simp only [ev, envOf, val_set, ofValue, ofCell, ↓reduceIte, Nat.reduceEqDiff, v2, v3, v4, v5, v6] <;> rfl) (by simp only [ev, envOf, val_set, ofValue, ofCell, ↓reduceIte, Nat.reduceEqDiff, v2, v3, v4, v5, v6] <;> rfl) O2 (src_fresh (n := 1) A10 rfl) rfl (ones3 (SA.one' hys)) (by omega) rfl rfl ?_; intro sl3 H11 bs3 fs3 O3 W11 l11 u11 p11 q11 K11
      have E11 := Ext.keeps W0 E10 hN2 K11 l11 W11
      have hN3 := hN2.step E10.n p11 q11
      have Oo3 := Oo2.other K11 hAp2
      have hAp3 := (hAp2.symm.step (Oo2.lt W10) (fun f hf => Oo2.famlt W10 hf) p11 q11).symm
      have hl7 := W10.lt A7
      have hap3 : bs3 ≠ H4.n := by rcases p11 with h | h <;> omega
      have A7 := K11.at A7 (by omega) rfl
      refine o_rd (r_assign (by simp only [ev, envOf, val_set, ofValue, ofCell, ↓reduceIte, Nat.reduceEqDiff, v2, v3, v4, v5, v6] <;> rfl)) rfl rfl ?_
      refine o_nil ?_
      refine w_region ?_
      refine o_rd (r_move (by simp only [ev, envOf, val_set, ofValue, ofCell, ↓reduceIte, Nat.reduceEqDiff, v2, v3, v4, v5, v6] <;> rfl)) rfl rfl ?_
      refine o_rd (r_addE (a := ((i : Nat) : Int)) (b := 1) (c := ((i + 1 : Nat) : Int)) (by simp only [ev, envOf, val_set, ofValue, ofCell, ↓reduceIte, Nat.reduceEqDiff, v2, v3, v4, v5, v6] <;> rfl) (by simp only [ev, envOf, val_set, ofValue, ofCell, ↓reduceIte, Nat.reduceEqDiff, v2, v3, v4, v5, v6] <;> rfl) (by omega) (by omega) (by omega)) rfl rfl ?_
      refine o_rd (r_assign (by simp only [ev, envOf, val_set, ofValue, ofCell, ↓reduceIte, Nat.reduceEqDiff, v2, v3, v4, v5, v6] <;> rfl)) rfl rfl ?_
      refine o_nil ?_
      exact ⟨m - 1, (by omega), _, H11, i + 1, st2 ++ [xl[i]], sl3, bs3, fs3, (cs2 ++ [.int .i64 yk, .int .i64 yn, ys]), rfl, (by simp only [val_set, ↓reduceIte, Nat.reduceEqDiff, v2, v3, v4, v5, v6] <;> rfl), (by simp only [val_set, ↓reduceIte, Nat.reduceEqDiff, v2, v3, v4, v5, v6] <;> rfl), (by simp only [val_set, ↓reduceIte, Nat.reduceEqDiff, v2, v3, v4, v5, v6] <;> rfl), (by simp only [val_set, ↓reduceIte, Nat.reduceEqDiff, v2, v3, v4, v5, v6] <;> rfl), (by simp only [val_set, ↓reduceIte, Nat.reduceEqDiff, v2, v3, v4, v5, v6] <;> rfl), W11, E11, A7, (by rw [List.length_append, List.length_singleton]; exact O3), hN3, (hL2.append (LA.one hvx)), (by omega), (by rw [V.cnts_append]; simp only [V.cnts]; omega), (by rw [V.cnts_append]; simp only [V.cnts]; omega), hap3, Oo3, hAp3, (fun q => by rw [← hmem2 q, V.chs_append]; simp only [V.chs, List.mem_append, List.append_nil]; constructor <;> (rintro (h | h | h | h) <;> first | simp [h] | (rcases h with h | h <;> simp [h])))⟩
    · have hc9 := dec_f hc9
      refine w_exit (blk_exit ?_)
      refine w_seq ?_
      refine w_region ?_
      have hmem3 := hmem2; rw [List.drop_of_length_le (by omega)] at hmem3 hcn2 hme; simp only [V.chs, V.cnts, List.not_mem_nil, or_false] at hmem3 hcn2 hme
      refine o_rd (r_fieldAddr Ty.fo24_0 (by simp only [ev, envOf, val_set, ofValue, ofCell, ↓reduceIte, Nat.reduceEqDiff, v2, v3, v4, v5, v6] <;> rfl)) rfl rfl ?_
      refine o_rd (r_load1 (v := .int .i64 (xk)) Ty.agg3 (by simp only [ev, envOf, val_set, ofValue, ofCell, ↓reduceIte, Nat.reduceEqDiff, v2, v3, v4, v5, v6] <;> rfl) (read_mt A7 (Nat.le_of_ble_eq_true rfl))) rfl rfl ?_
      refine o_rd (r_eq (a := xk) (b := 5) (by simp only [ev, envOf, val_set, ofValue, ofCell, ↓reduceIte, Nat.reduceEqDiff, v2, v3, v4, v5, v6] <;> rfl) (by simp only [ev, envOf, val_set, ofValue, ofCell, ↓reduceIte, Nat.reduceEqDiff, v2, v3, v4, v5, v6] <;> rfl)) rfl rfl ?_
      refine o_rd (r_move (by simp only [ev, envOf, val_set, ofValue, ofCell, ↓reduceIte, Nat.reduceEqDiff, v2, v3, v4, v5, v6] <;> rfl)) rfl rfl ?_
      cases hg12 : (decide (xk = 5) : Bool)
      · have hg12 := dec_f hg12
        refine o_sk rfl ((wanted_of (b := false) rfl rfl rfl (by simp only [val_set, ↓reduceIte, Nat.reduceEqDiff, v2, v3, v4, v5, v6] <;> rfl)).trans rfl) ?_
        refine o_sk rfl ((wanted_of (b := false) rfl rfl rfl (by simp only [val_set, ↓reduceIte, Nat.reduceEqDiff, v2, v3, v4, v5, v6] <;> rfl)).trans rfl) ?_
        refine o_sk rfl ((wanted_of (b := false) rfl rfl rfl (by simp only [val_set, ↓reduceIte, Nat.reduceEqDiff, v2, v3, v4, v5, v6] <;> rfl)).trans rfl) ?_
        refine o_rd (r_pick (t := false) (by simp only [ev, envOf, val_set, ofValue, ofCell, ↓reduceIte, Nat.reduceEqDiff, v2, v3, v4, v5, v6] <;> rfl) (fun h => by cases h) (fun _ => (by simp only [ev, envOf, val_set, ofValue, ofCell, ↓reduceIte, Nat.reduceEqDiff, v2, v3, v4, v5, v6] <;> rfl))) rfl rfl ?_
        refine o_nil ?_
        refine w_cond (t := false) (by simp only [ev, envOf, val_set, ofValue, ofCell, ↓reduceIte, Nat.reduceEqDiff, v2, v3, v4, v5, v6] <;> rfl) (fun h => by cases h) (fun _ => ?_)
        refine w_skip ?_
        have hmn : ∀ q, (q ∈ lo ∨ q ∈ V.chs st2) ↔ q ∈ CC := fun q => (by rw [← hmem3 q]; exact ⟨fun h => (by rcases h with h | h <;> simp [h]), fun h => (by rcases h with h | h | h <;> first | (exfalso; omega) | simp [h])⟩)
        exact ⟨V.cnts st2, (by omega), _, H8, st2, sl2, bs2, fs2, cs2, lo, so, bo, fo, rfl, (by simp only [val_set, ↓reduceIte, Nat.reduceEqDiff, v2, v3, v4, v5, v6] <;> rfl), (by simp only [val_set, ↓reduceIte, Nat.reduceEqDiff, v2, v3, v4, v5, v6] <;> rfl), (by simp only [val_set, ↓reduceIte, Nat.reduceEqDiff, v2, v3, v4, v5, v6] <;> rfl), W8, E8, O2, hN2, hL2, rfl, Oo2, hNo, hAp2, hRi, (by omega), hmn⟩
      · have hg12 := dec_t hg12
        refine o_rd (r_fieldAddr Ty.fo24_1 (by simp only [ev, envOf, val_set, ofValue, ofCell, ↓reduceIte, Nat.reduceEqDiff, v2, v3, v4, v5, v6] <;> rfl)) rfl ((wanted_of (b := true) rfl rfl rfl (by simp only [val_set, ↓reduceIte, Nat.reduceEqDiff, v2, v3, v4, v5, v6] <;> rfl)).trans rfl) ?_
        refine o_rd (r_load1 (v := .int .i64 (xn)) Ty.agg3 (by simp only [ev, envOf, val_set, ofValue, ofCell, ↓reduceIte, Nat.reduceEqDiff, v2, v3, v4, v5, v6] <;> rfl) (read_mt A7 (Nat.le_of_ble_eq_true rfl))) rfl ((wanted_of (b := true) rfl rfl rfl (by simp only [val_set, ↓reduceIte, Nat.reduceEqDiff, v2, v3, v4, v5, v6] <;> rfl)).trans rfl) ?_
        refine o_rd (r_gt (a := xn) (b := 0) (by simp only [ev, envOf, val_set, ofValue, ofCell, ↓reduceIte, Nat.reduceEqDiff, v2, v3, v4, v5, v6] <;> rfl) (by simp only [ev, envOf, val_set, ofValue, ofCell, ↓reduceIte, Nat.reduceEqDiff, v2, v3, v4, v5, v6] <;> rfl)) rfl ((wanted_of (b := true) rfl rfl rfl (by simp only [val_set, ↓reduceIte, Nat.reduceEqDiff, v2, v3, v4, v5, v6] <;> rfl)).trans rfl) ?_
        refine o_rd (r_pick (t := true) (by simp only [ev, envOf, val_set, ofValue, ofCell, ↓reduceIte, Nat.reduceEqDiff, v2, v3, v4, v5, v6] <;> rfl) (fun _ => (by simp only [ev, envOf, val_set, ofValue, ofCell, ↓reduceIte, Nat.reduceEqDiff, v2, v3, v4, v5, v6] <;> rfl)) (fun h => by cases h)) rfl rfl ?_
        refine o_nil ?_
        refine w_cond (by simp only [ev, envOf, val_set, ofValue, ofCell, ↓reduceIte, Nat.reduceEqDiff, v2, v3, v4, v5, v6] <;> rfl) (fun hc13 => ?_) (fun hc13 => ?_)
        · have hc13 := dec_t hc13
          refine w_region ?_
          obtain ⟨oo, co, rfl, hco, RO⟩ := Oo2.read
          refine o_rd (r_move (by simp only [ev, envOf, val_set, ofValue, ofCell, ↓reduceIte, Nat.reduceEqDiff, v2, v3, v4, v5, v6] <;> rfl)) rfl rfl ?_
          refine o_rd (r_fieldAddr Ty.fo24_1 (by simp only [ev, envOf, val_set, ofValue, ofCell, ↓reduceIte, Nat.reduceEqDiff, v2, v3, v4, v5, v6] <;> rfl)) rfl rfl ?_
          refine o_rd (r_load1 (v := .int .i64 (xn)) Ty.agg3 (by simp only [ev, envOf, val_set, ofValue, ofCell, ↓reduceIte, Nat.reduceEqDiff, v2, v3, v4, v5, v6] <;> rfl) (read_mt A7 (Nat.le_of_ble_eq_true rfl))) rfl rfl ?_
          refine o_cl rfl rfl (by simp only [evs, ev, envOf, val_set, ofValue, ofCell, ↓reduceIte, Nat.reduceEqDiff, v2, v3, v4, v5, v6] <;> rfl) rfl (put_fin ho W8 xn lo bo oo co fo Oo2 hRi (by omega)) rfl rfl ?_; rintro _ H14 ⟨lp, sp, bp, fp, rfl, Op, hNq, hRp, hmq, hlq, X14⟩
          have W14 := X14.wf; have E14 := E8.trans X14
          have A7 := X14.keep _ _ A7
          have n14 := X14.n
          have hApp : Apart bp fp bs2 fs2 := Apart.symm ⟨by have := O2.lt W8; have := hNq.1; omega, by cases hf : fs2 with | none => exact .inl rfl | some f => exact .inr (fun e => by have := O2.famlt W8 hf; have := hNq.2 f e.symm; omega)⟩
          replace O2 := O2.ext X14
          have hNp : New H0 bp fp := ⟨by have := hNq.1; have := E8.n; omega, fun f hf => by have := hNq.2 f hf; have := E8.n; omega⟩
          have hmp : ∀ q, (q ∈ lp ∨ q ∈ V.chs st2) ↔ q ∈ CC := fun q => by
            rw [← hmem3 q, hmq q]; constructor
            · rintro ((h | h) | h) <;> simp [h] <;> omega
            · rintro (h | h | h) <;> simp [h]
          refine o_rd (r_assign (by simp only [ev, envOf, val_set, ofValue, ofCell, ↓reduceIte, Nat.reduceEqDiff, v2, v3, v4, v5, v6] <;> rfl)) rfl rfl ?_
          refine o_nil ?_
          exact ⟨V.cnts st2, (by omega), _, H14, st2, sl2, bs2, fs2, cs2, lp, sp, bp, fp, rfl, (by simp only [val_set, ↓reduceIte, Nat.reduceEqDiff, v2, v3, v4, v5, v6] <;> rfl), (by simp only [val_set, ↓reduceIte, Nat.reduceEqDiff, v2, v3, v4, v5, v6] <;> rfl), (by simp only [val_set, ↓reduceIte, Nat.reduceEqDiff, v2, v3, v4, v5, v6] <;> rfl), W14, E14, O2, hN2, hL2, rfl, Op, hNp, hApp, hRp, (by omega), hmp⟩
        · have hc13 := dec_f hc13
          refine w_skip ?_
          have hmn : ∀ q, (q ∈ lo ∨ q ∈ V.chs st2) ↔ q ∈ CC := fun q => (by rw [← hmem3 q]; exact ⟨fun h => (by rcases h with h | h <;> simp [h]), fun h => (by rcases h with h | h | h <;> first | (exfalso; omega) | simp [h])⟩)
          exact ⟨V.cnts st2, (by omega), _, H8, st2, sl2, bs2, fs2, cs2, lo, so, bo, fo, rfl, (by simp only [val_set, ↓reduceIte, Nat.reduceEqDiff, v2, v3, v4, v5, v6] <;> rfl), (by simp only [val_set, ↓reduceIte, Nat.reduceEqDiff, v2, v3, v4, v5, v6] <;> rfl), (by simp only [val_set, ↓reduceIte, Nat.reduceEqDiff, v2, v3, v4, v5, v6] <;> rfl), W8, E8, O2, hN2, hL2, rfl, Oo2, hNo, hAp2, hRi, (by omega), hmn⟩
  · have hc5 := dec_f hc5
    refine w_exit (blk_exit ?_)
    refine w_seq ?_
    refine w_region ?_
    refine o_rd (r_move (by simp only [ev, envOf, val_set, ofValue, ofCell, ↓reduceIte, Nat.reduceEqDiff, v2, v3, v4] <;> rfl)) rfl rfl ?_
    refine o_rd (r_assign (by simp only [ev, envOf, val_set, ofValue, ofCell, ↓reduceIte, Nat.reduceEqDiff, v2, v3, v4] <;> rfl)) rfl rfl ?_
    refine o_nil ?_
    refine w_ret ⟨.inr rfl, rfl, so, (show resultA Try.prog [.tmp 2] _ = _ by simp only [resultA, resultsA, envOf, val_set, ↓reduceIte, Nat.reduceEqDiff, Option.map_some, v2, v3, v4] <;> rfl), ?_⟩
    try dsimp only
    have hst : st = [] := List.eq_nil_of_length_eq_zero (by omega); subst hst; exact ⟨lo, _, _, _, rfl, Oo, hNo, hRi, fun q => by have := hmem q; rw [hCC] at this; simpa [V.chs] using this, (by omega), E4⟩
end Go.Proofs.Ytenfjdkeikjhlaa.Vs
