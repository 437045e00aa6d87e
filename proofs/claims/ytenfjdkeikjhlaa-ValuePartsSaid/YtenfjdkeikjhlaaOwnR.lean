/-
  own of the reference.
-/
import Derived.Test.YtenfjdkeikjhlaaFreshT
import Derived.Test.YtenfjdkeikjhlaaSize
import Derived.Test.YtenfjdkeikjhlaaVjT
set_option autoImplicit false
set_option linter.unusedVariables false
set_option linter.unusedSimpArgs false
namespace Go.Proofs.Ytenfjdkeikjhlaa.Vs
open Go.VI Go.Proofs
variable {orc : CallF}
theorem QL.lower {n m b : Nat} {f : Option Nat} {H : AH} {l : List V} {cs : List AV} (h : QL n b f H l cs) (hm : m ≤ n) : QL m b f H l cs := fun H2 k => h H2 fun c x h1 h2 h3 h4 h5 => k c x (by omega) h2 h3 (fun g hg => by have := h4 g hg; omega) h5
theorem QL.put {n b c0 : Nat} {f : Option Nat} {H H' : AH} {l : List V} {cs : List AV} (h : QL n b f H l cs) (K : Keeps H H' c0 none) (hc : c0 < n) : QL n b f H' l cs := fun H2 k => h H2 fun c x h1 h2 h3 h4 h5 => k c x h1 h2 (K.own h3 (by omega)) h4 h5
set_option maxRecDepth 100000 in
set_option maxHeartbeats 4000000 in
theorem ownR_step (ho : NoOrcBut [9, 35, 36] orc) {H0 : AH} (W0 : Wf H0) (ka na : Int) (la : List V) (sa : AV) (hS : SA H0 la sa) (hN0' : la.length ≤ 1000000) (ih : ∀ x ∈ la, ∀ k n l, x = .mk k n l → ∀ (H : AH), Wf H → ∀ (a : List AV), VA H (.mk k n l) a → Fin Try.prog orc 45 [.agg a] H (fun r H' => ∃ s b f cs, r = .agg [.int .i64 k, .int .i64 n, s] ∧ Own H' 24 3 s l.length cs b f ∧ QL H.n b f H' l cs ∧ H.n ≤ b ∧ (∀ g, f = some g → H.n ≤ g) ∧ Ext H H')) : Fin Try.prog orc 45 [.agg [.int .i64 (ka), .int .i64 (na), sa]] H0 (fun r H' => ∃ s b f cs, r = .agg [.int .i64 ka, .int .i64 na, s] ∧ Own H' 24 3 s la.length cs b f ∧ QL H0.n b f H' la cs ∧ H0.n ≤ b ∧ (∀ g, f = some g → H0.n ≤ g) ∧ Ext H0 H') := by
  have E0 := Ext.refl W0
  refine fin_of Try.func45 rfl (by rw [Try.ntmps45]; simp) (ho _ rfl _ _) ?_
  rw [Try.ntmps45]
  refine w_seq ?_
  refine w_region ?_
  refine o_nw W0 (a_box (by simp only [ev, envOf, val_set, ofValue, ofCell, ↓reduceIte, Nat.reduceEqDiff] <;> rfl)) rfl rfl rfl (by simp) ?_; intro H1 n1 W1 X1 A1
  have A1 : H1.at H0.n = some (.row [.int .i64 (ka), .int .i64 (na), sa] 24 false none) := A1
  have E1 := E0.trans X1
  have g1 : H0.n ≤ H0.n := E0.n
  refine o_nw W1 (a_alloc Ty.zero24) rfl rfl rfl (by simp) ?_; intro H2 n2 W2 X2 A2
  have A2 : H2.at H1.n = some (.row [.int .i64 (0), .int .i64 (0), .nils] 24 false none) := A2
  have E2 := E1.trans X2
  have g2 : H0.n ≤ H1.n := E1.n
  have A1 := X2.keep _ _ A1
  refine o_nil ?_
  refine w_seq ?_
  refine w_region ?_
  refine o_nw W2 (a_build0 Try.underlying22 Ty.csz24 Ty.zero24 rfl) rfl rfl rfl (by simp) ?_; intro H3 n3 W3 X3 A3
  have E3 := E2.trans X3
  have O0 : Own H3 24 3 (freshSl (H2.n) 0 0) 0 [] (H2.n) none := own_fresh (n := 0) (e := 3) A3 rfl
  have hN0 : New H0 (H2.n) none := ⟨E2.n, fun f h => by cases h⟩
  have A1 := X3.keep _ _ A1
  have A2 := X3.keep _ _ A2
  refine o_rd (r_assign (by simp only [ev, envOf, val_set, ofValue, ofCell, ↓reduceIte, Nat.reduceEqDiff] <;> rfl)) rfl rfl ?_
  refine o_nil ?_
  refine w_seq ?_
  refine w_seq ?_
  refine w_region ?_
  refine o_rd (r_assign (by simp only [ev, envOf, val_set, ofValue, ofCell, ↓reduceIte, Nat.reduceEqDiff] <;> rfl)) rfl rfl ?_
  refine o_nil ?_
  refine w_block ?_
  refine w_loop (fun m s => ∃ (e : Env) (H : AH) (i : Nat) (so : AV) (bo : Nat) (fo : Option Nat) (cs : List AV), s = ⟨e, H, []⟩ ∧ e.val 1 = .ptr (.mt (H0.n)) (0) ∧ e.val 2 = .ptr (.mt (H1.n)) (0) ∧ e.val 3 = so ∧ e.val 4 = .int .i64 (((i : Nat) : Int)) ∧ Wf H ∧ Ext H0 H ∧ H.at (H0.n) = some (.row [.int .i64 (ka), .int .i64 (na), sa] 24 false none) ∧ H.at (H1.n) = some (.row [.int .i64 (0), .int .i64 (0), .nils] 24 false none) ∧ (Own H 24 3 so i cs bo fo) ∧ (New H0 bo fo) ∧ (QL (H1.n + 1) bo fo H (la.take i) cs) ∧ (H1.n < bo) ∧ (∀ g, fo = some g → H1.n < g) ∧ (i + m = la.length)) (la.length) ⟨_, H3, 0, _, H2.n, none, [], rfl, (by simp only [val_set, ↓reduceIte, Nat.reduceEqDiff] <;> rfl), (by simp only [val_set, ↓reduceIte, Nat.reduceEqDiff] <;> rfl), (by simp only [val_set, ↓reduceIte, Nat.reduceEqDiff] <;> rfl), (by simp only [val_set, ↓reduceIte, Nat.reduceEqDiff] <;> rfl), W3, E3, A1, A2, O0, hN0, (fun _ _ => .nil), (by omega), (fun g h => by cases h), (by omega)⟩ ?_
  intro m s hi
  obtain ⟨e, H4, i, so, bo, fo, cs, rfl, v1, v2, v3, v4, W4, E4, A1, A2, O, hN, hQ, hbo, hfo, him⟩ := hi
  have l4_0 := W4.lt A1
  have l4_1 := W4.lt A2
  refine w_seq ?_
  refine w_seq ?_
  refine w_region ?_
  refine o_rd (r_move (by simp only [ev, envOf, val_set, ofValue, ofCell, ↓reduceIte, Nat.reduceEqDiff, v1, v2, v3, v4] <;> rfl)) rfl rfl ?_
  refine o_rd (r_fieldAddr Ty.fo24_2 (by simp only [ev, envOf, val_set, ofValue, ofCell, ↓reduceIte, Nat.reduceEqDiff, v1, v2, v3, v4] <;> rfl)) rfl rfl ?_
  refine o_rd (r_load1 (v := sa) Ty.agg22 (by simp only [ev, envOf, val_set, ofValue, ofCell, ↓reduceIte, Nat.reduceEqDiff, v1, v2, v3, v4] <;> rfl) (read_mt A1 (Nat.le_of_ble_eq_true rfl))) rfl rfl ?_
  refine o_rd (r_len (n := la.length) Try.underlying22 (by simp only [ev, envOf, val_set, ofValue, ofCell, ↓reduceIte, Nat.reduceEqDiff, v1, v2, v3, v4] <;> rfl) hS.lenOf) rfl rfl ?_
  refine o_rd (r_lt (a := ((i : Nat) : Int)) (b := ((la.length : Nat) : Int)) (by simp only [ev, envOf, val_set, ofValue, ofCell, ↓reduceIte, Nat.reduceEqDiff, v1, v2, v3, v4] <;> rfl) (by simp only [ev, envOf, val_set, ofValue, ofCell, ↓reduceIte, Nat.reduceEqDiff, v1, v2, v3, v4] <;> rfl)) rfl rfl ?_
  refine o_nil ?_
  refine w_cond (by simp only [ev, envOf, val_set, ofValue, ofCell, ↓reduceIte, Nat.reduceEqDiff, v1, v2, v3, v4] <;> rfl) (fun hc5 => ?_) (fun hc5 => ?_)
  · have hc5 := dec_t hc5
    refine w_skip ?_
    refine w_seq ?_
    refine w_block ?_
    refine w_seq ?_
    refine w_region ?_
    have hi1 : i < la.length := by omega
    obtain ⟨lox, ofx, cpx, cex, rfl, hrx, hvx⟩ := hS.get hi1
    obtain ⟨yk, yn, yl, ys0, rfl, hxe, hys0⟩ := hvx.inv
    refine o_rd (r_fieldAddr Ty.fo24_2 (by simp only [ev, envOf, val_set, ofValue, ofCell, ↓reduceIte, Nat.reduceEqDiff, v1, v2, v3, v4] <;> rfl)) rfl rfl ?_
    refine o_rd (r_load1 (v := .sl lox (ofx) (la.length) cpx) Ty.agg22 (by simp only [ev, envOf, val_set, ofValue, ofCell, ↓reduceIte, Nat.reduceEqDiff, v1, v2, v3, v4] <;> rfl) (read_mt A1 (Nat.le_of_ble_eq_true rfl))) rfl rfl ?_
    refine o_rd (r_move (by simp only [ev, envOf, val_set, ofValue, ofCell, ↓reduceIte, Nat.reduceEqDiff, v1, v2, v3, v4] <;> rfl)) rfl rfl ?_
    refine o_rd (r_indexAddr Try.underlying22 Ty.csz24 (by simp only [ev, envOf, val_set, ofValue, ofCell, ↓reduceIte, Nat.reduceEqDiff, v1, v2, v3, v4] <;> rfl) (by simp only [ev, envOf, val_set, ofValue, ofCell, ↓reduceIte, Nat.reduceEqDiff, v1, v2, v3, v4] <;> rfl) hi1) rfl rfl ?_
    refine o_rd (r_loadN Ty.agg24 Ty.csz24 (by simp only [ev, envOf, val_set, ofValue, ofCell, ↓reduceIte, Nat.reduceEqDiff, v1, v2, v3, v4] <;> rfl) (E4.read hrx)) rfl rfl ?_
    refine o_cl rfl rfl (by simp only [evs, ev, envOf, val_set, ofValue, ofCell, ↓reduceIte, Nat.reduceEqDiff, v1, v2, v3, v4] <;> rfl) rfl (ih la[i] (List.getElem_mem hi1) yk yn yl hxe _ W4 _ (.mk _ _ _ _ (hys0.ext E4))) rfl rfl ?_; rintro _ H6 ⟨ys, yb, yf, ycs, rfl, hyO, hyQ, hyb, hyf, X6⟩
    have W6 := X6.wf; have E6 := E4.trans X6
    have A1 := X6.keep _ _ A1
    have A2 := X6.keep _ _ A2
    have n6 := X6.n
    have hfs := FS.mk (k := yk) (i := yn) hyO hyQ hyb hyf hys0.bound
    refine o_nw W6 (a_alloc Ty.zero24) rfl rfl rfl (by simp) ?_; intro H7 n7 W7 X7 A7
    have A7 : H7.at H6.n = some (.row [.int .i64 (0), .int .i64 (0), .nils] 24 false none) := A7
    have E7 := E6.trans X7
    have g7 : H0.n ≤ H6.n := E6.n
    have A1 := X7.keep _ _ A1
    have A2 := X7.keep _ _ A2
    refine o_st W7 (by simp only [ev, envOf, val_set, ofValue, ofCell, ↓reduceIte, Nat.reduceEqDiff, v1, v2, v3, v4] <;> rfl) (by simp only [ev, envOf, val_set, ofValue, ofCell, ↓reduceIte, Nat.reduceEqDiff, v1, v2, v3, v4] <;> rfl) A7 Ty.csz24 rfl (Nat.le_of_ble_eq_true rfl) (by first | rfl | (exact ones3 rfl) | (exact ones3 (by cases hfs.va with | mk _ _ _ _ h => exact SA.one' h))) rfl rfl ?_; intro H8 n8 W8 A8 K8
    have A8 : H8.at H6.n = some (.row [.int .i64 (yk), .int .i64 (yn), ys] 24 false none) := A8
    have E8 := Ext.put W0 E7 (by have := E7.n; omega) K8 n8 W8
    have A1 := K8.own A1 (by omega)
    have A2 := K8.own A2 (by omega)
    refine o_nil ?_
    refine w_region ?_
    have EC := Ext.put W4 (X6.trans X7) (by have := X6.n; omega) K8 n8 W8
    have ES := Ext.put W6 X7 (Nat.le_refl _) K8 n8 W8
    have hl5 := O.lt W4; have hlf := fun f hf => O.famlt W4 (f := f) hf
    replace O := O.ext EC
    have hQ2 := (hQ.ext EC).snoc (hfs.ext ES) (by omega) hl5 hlf
    refine o_rd (r_move (by simp only [ev, envOf, val_set, ofValue, ofCell, ↓reduceIte, Nat.reduceEqDiff, v1, v2, v3, v4] <;> rfl)) rfl rfl ?_
    refine o_rd (r_loadN (cs := [.int .i64 (yk), .int .i64 (yn), ys]) Ty.agg24 Ty.csz24 (by simp only [ev, envOf, val_set, ofValue, ofCell, ↓reduceIte, Nat.reduceEqDiff, v1, v2, v3, v4] <;> rfl) (read_mt A8 (Nat.le_of_ble_eq_true rfl))) rfl rfl ?_
    have hys := hfs.va; have hoy : AV.one ys = true := by cases hys with | mk _ _ _ _ h => exact SA.one' h
    refine o_nw W8 (a_build1 Try.underlying22 Ty.csz24 Ty.zero24 rfl (by simp only [ev, envOf, val_set, ofValue, ofCell, ↓reduceIte, Nat.reduceEqDiff, v1, v2, v3, v4] <;> rfl) rfl (by decide)) rfl rfl rfl (by simp) ?_; intro H9 n9 W9 X9 A9
    have E9 := E8.trans X9
    have A1 := X9.keep _ _ A1
    have A2 := X9.keep _ _ A2
    have A8 := X9.keep _ _ A8
    refine o_ap W9 Try.underlying22 Try.underlying22 rfl Ty.csz24 Ty.byt24 Ty.zero24 rfl (by simp only [ev, envOf, val_set, ofValue, ofCell, ↓reduceIte, Nat.reduceEqDiff, v1, v2, v3, v4] <;> rfl) (by simp only [ev, envOf, val_set, ofValue, ofCell, ↓reduceIte, Nat.reduceEqDiff, v1, v2, v3, v4] <;> rfl) (O.ext X9) (src_fresh (n := 1) A9 rfl) rfl (ones3 hoy) (by omega) rfl rfl ?_; intro s3 H10 b3 f3 O3 W10 l10 u10 p10 q10 K10
    have E10 := Ext.keeps W0 E9 hN K10 l10 W10
    have hN3 := hN.step E9.n p10 q10
    have hQ3 := (hQ2.ext X9).step W9 K10 p10 q10
    have A1 := K10.at A1 (by omega) rfl
    have A2 := K10.at A2 (by omega) rfl
    have hbo3 : H1.n < b3 := by rcases p10 with h | h <;> omega
    have hfo3 : ∀ g, f3 = some g → H1.n < g := fun g hg => by rcases q10 with h | h | h <;> rw [hg] at h <;> first | (cases h; done) | exact hfo g h.symm | (injection h with h; omega)
    refine o_rd (r_assign (by simp only [ev, envOf, val_set, ofValue, ofCell, ↓reduceIte, Nat.reduceEqDiff, v1, v2, v3, v4] <;> rfl)) rfl rfl ?_
    refine o_nil ?_
    refine w_region ?_
    refine o_rd (r_move (by simp only [ev, envOf, val_set, ofValue, ofCell, ↓reduceIte, Nat.reduceEqDiff, v1, v2, v3, v4] <;> rfl)) rfl rfl ?_
    refine o_rd (r_addE (a := ((i : Nat) : Int)) (b := 1) (c := ((i + 1 : Nat) : Int)) (by simp only [ev, envOf, val_set, ofValue, ofCell, ↓reduceIte, Nat.reduceEqDiff, v1, v2, v3, v4] <;> rfl) (by simp only [ev, envOf, val_set, ofValue, ofCell, ↓reduceIte, Nat.reduceEqDiff, v1, v2, v3, v4] <;> rfl) (by omega) (by omega) (by omega)) rfl rfl ?_
    refine o_rd (r_assign (by simp only [ev, envOf, val_set, ofValue, ofCell, ↓reduceIte, Nat.reduceEqDiff, v1, v2, v3, v4] <;> rfl)) rfl rfl ?_
    refine o_nil ?_
    exact ⟨m - 1, (by omega), _, H10, i + 1, s3, b3, f3, (cs ++ [.int .i64 yk, .int .i64 yn, ys]), rfl, (by simp only [val_set, ↓reduceIte, Nat.reduceEqDiff, v1, v2, v3, v4] <;> rfl), (by simp only [val_set, ↓reduceIte, Nat.reduceEqDiff, v1, v2, v3, v4] <;> rfl), (by simp only [val_set, ↓reduceIte, Nat.reduceEqDiff, v1, v2, v3, v4] <;> rfl), (by simp only [val_set, ↓reduceIte, Nat.reduceEqDiff, v1, v2, v3, v4] <;> rfl), W10, E10, A1, A2, O3, hN3, (by rw [List.take_succ_eq_append_getElem hi1, hxe]; exact hQ3), hbo3, hfo3, (by omega)⟩
  · have hc5 := dec_f hc5
    first | refine w_exit (blk_exit ?_) | refine w_exit (show (0 = 0 → _) ∧ (0 ≠ 0 → _) from ⟨fun _ => ?_, fun c => absurd rfl c⟩)
    refine w_seq ?_
    refine w_region ?_
    obtain rfl : i = la.length := by omega
    rw [List.take_length] at hQ
    obtain ⟨oo, co, rfl, hco, -⟩ := O.read
    refine o_rd (r_move (by simp only [ev, envOf, val_set, ofValue, ofCell, ↓reduceIte, Nat.reduceEqDiff, v1, v2, v3, v4] <;> rfl)) rfl rfl ?_
    refine o_rd (r_fieldAddr Ty.fo24_2 (by simp only [ev, envOf, val_set, ofValue, ofCell, ↓reduceIte, Nat.reduceEqDiff, v1, v2, v3, v4] <;> rfl)) rfl rfl ?_
    refine o_st W4 (by simp only [ev, envOf, val_set, ofValue, ofCell, ↓reduceIte, Nat.reduceEqDiff, v1, v2, v3, v4] <;> rfl) (by simp only [ev, envOf, val_set, ofValue, ofCell, ↓reduceIte, Nat.reduceEqDiff, v1, v2, v3, v4] <;> rfl) A1 Ty.csz22 rfl (Nat.le_of_ble_eq_true rfl) (by first | rfl | (exact ones3 rfl) | (exact ones3 (by cases hfs.va with | mk _ _ _ _ h => exact SA.one' h))) rfl rfl ?_; intro H11 n11 W11 A11 K11
    have A11 : H11.at H0.n = some (.row [.int .i64 (ka), .int .i64 (na), .sl (.mt bo) (oo) (la.length) co] 24 false none) := A11
    have E11 := Ext.put W0 E4 (by have := E4.n; omega) K11 n11 W11
    have A2 := K11.own A2 (by omega)
    refine o_nil ?_
    refine w_seq ?_
    refine w_region ?_
    refine o_rd (r_loadN (cs := [.int .i64 (ka), .int .i64 (na), .sl (.mt bo) (oo) (la.length) co]) Ty.agg24 Ty.csz24 (by simp only [ev, envOf, val_set, ofValue, ofCell, ↓reduceIte, Nat.reduceEqDiff, v1, v2, v3, v4] <;> rfl) (read_mt A11 (Nat.le_of_ble_eq_true rfl))) rfl rfl ?_
    refine o_st W11 (by simp only [ev, envOf, val_set, ofValue, ofCell, ↓reduceIte, Nat.reduceEqDiff, v1, v2, v3, v4] <;> rfl) (by simp only [ev, envOf, val_set, ofValue, ofCell, ↓reduceIte, Nat.reduceEqDiff, v1, v2, v3, v4] <;> rfl) A2 Ty.csz24 rfl (Nat.le_of_ble_eq_true rfl) (by first | rfl | (exact ones3 rfl) | (exact ones3 (by cases hfs.va with | mk _ _ _ _ h => exact SA.one' h))) rfl rfl ?_; intro H12 n12 W12 A12 K12
    have A12 : H12.at H1.n = some (.row [.int .i64 (ka), .int .i64 (na), .sl (.mt bo) (oo) (la.length) co] 24 false none) := A12
    have E12 := Ext.put W0 E11 (by have := E11.n; omega) K12 n12 W12
    have A11 := K12.own A11 (by omega)
    refine o_nil ?_
    have hr13 : H12.read (.mt H1.n) 0 3 = some [.int .i64 (ka), .int .i64 (na), .sl (.mt bo) (oo) (la.length) co] := read_mt A12 (Nat.le_of_ble_eq_true rfl)
    refine w_ret ⟨.inr rfl, rfl, .agg [.int .i64 (ka), .int .i64 (na), .sl (.mt bo) (oo) (la.length) co], (show resultA Try.prog [.cell 2 24] _ = _ by simp only [resultA, resultsA, envOf, val_set, ↓reduceIte, Nat.reduceEqDiff, Option.map_some, v1, v2, v3, v4, hr13, Ty.agg24, Ty.csz24] <;> rfl), ?_⟩
    try dsimp only
    replace O := O.keep fun x hx _ => K11.own hx (by omega)
    replace hQ := QL.put hQ K11 (by omega)
    replace O := O.keep fun x hx _ => K12.own hx (by omega)
    replace hQ := QL.put hQ K12 (by omega)
    exact ⟨_, _, _, _, rfl, O, (QL.lower hQ (by omega)), (by omega), (fun g hg => by have := hfo g hg; omega), E12⟩
theorem ownR_fin (ho : NoOrcBut [9, 35, 36] orc) (x : V) : x.cnt ≤ 1000000 → ∀ k n l, x = .mk k n l → ∀ (H : AH), Wf H → ∀ (a : List AV), VA H (.mk k n l) a → VI.Fin Try.prog orc 45 [.agg a] H (fun r H' => ∃ s b f cs, r = .agg [.int .i64 k, .int .i64 n, s] ∧ Own H' 24 3 s l.length cs b f ∧ QL H.n b f H' l cs ∧ H.n ≤ b ∧ (∀ g, f = some g → H.n ≤ g) ∧ Ext H H') := by
  refine V.ind (p := fun x => x.cnt ≤ 1000000 → ∀ k n l, x = .mk k n l → ∀ (H : AH), Wf H → ∀ (a : List AV), VA H (.mk k n l) a → VI.Fin Try.prog orc 45 [.agg a] H (fun r H' => ∃ s b f cs, r = .agg [.int .i64 k, .int .i64 n, s] ∧ Own H' 24 3 s l.length cs b f ∧ QL H.n b f H' l cs ∧ H.n ≤ b ∧ (∀ g, f = some g → H.n ≤ g) ∧ Ext H H')) ?_ x
  intro k n l ih hc k' n' l' e H W a ha
  injection e with e1 e2 e3
  subst e1; subst e2; subst e3
  simp only [V.cnt] at hc
  have hl := V.len_cnts l
  cases ha with | mk _ _ _ s h1 =>
  exact ownR_step ho W k n l s h1 (by omega) (fun x hx k2 n2 l2 e H' W' a' ha' => ih x hx (by have := V.cnt_mem hx; omega) k2 n2 l2 e H' W' a' ha')
end Go.Proofs.Ytenfjdkeikjhlaa.Vs
