/-
  value.own: a value in memory of its own.
-/
import Derived.Test.YtenfjdkeikjhlaaTy
import Derived.Test.YtenfjdkeikjhlaaVj
import Derived.Test.YtenfjdkeikjhlaaVjV
set_option autoImplicit false
set_option linter.unusedVariables false
set_option linter.unusedSimpArgs false
namespace Go.Proofs.Ytenfjdkeikjhlaa.Vs
open Go.VI Go.Proofs
variable {orc : CallF}
theorem ones3 {k n : Int} {s : AV} (h : s.one = true) : ones [.int .i64 k, .int .i64 n, s] = true := by
  show (match s.one with | true => true | false => false) = true
  rw [h]
theorem SA.one' {H : AH} {l : List V} {s : AV} (h : SA H l s) : s.one = true := by cases h <;> rfl
set_option maxRecDepth 100000 in
set_option maxHeartbeats 4000000 in
theorem own_step (ho : NoOrcBut [9, 35, 36] orc) {H0 : AH} (W0 : Wf H0) (ka na : Int) (la : List V) (sa : AV) (hS : SA H0 la sa) (hN : V.cnts la ≤ 1000000) (ih : ∀ x ∈ la, ∀ (H : AH), Wf H → ∀ (a : List AV), VA H x a → Fin Try.prog orc 44 [.agg a] H (fun r H' => ∃ a', r = .agg a' ∧ OA H' H.n H'.n x a' ∧ Ext H H')) : Fin Try.prog orc 44 [.agg [.int .i64 (ka), .int .i64 (na), sa]] H0 (fun r H' => ∃ a', r = .agg a' ∧ OA H' H0.n H'.n (.mk ka na la) a' ∧ Ext H0 H') := by
  have E0 := Ext.refl W0
  have hbd := V.len_cnts la; have hl := hS.lenOf; have h1s := SA.one' hS
  refine fin_of Try.func44 rfl (by rw [Try.ntmps44]; simp) (ho _ rfl _ _) ?_
  rw [Try.ntmps44]
  refine w_seq ?_
  refine w_region ?_
  refine o_nw W0 (a_box (by simp only [ev, envOf, val_set, ofValue, ofCell, ↓reduceIte, Nat.reduceEqDiff] <;> rfl)) rfl rfl rfl (by simp) ?_; intro H1 n1 W1 X1 A1
  have A1 : H1.at H0.n = some (.row [.int .i64 (ka), .int .i64 (na), sa] 24 false none) := A1
  have E1 := E0.trans X1
  refine o_nw W1 (a_alloc Ty.zero24) rfl rfl rfl (by simp) ?_; intro H2 n2 W2 X2 A2
  have A2 : H2.at H1.n = some (.row [.int .i64 (0), .int .i64 (0), .nils] 24 false none) := A2
  have E2 := E1.trans X2
  have A1 := X2.keep _ _ A1
  refine o_nil ?_
  refine w_seq ?_
  refine w_region ?_
  refine o_rd (r_fieldAddr Ty.fo24_2 (by simp only [ev, envOf, val_set, ofValue, ofCell, ↓reduceIte, Nat.reduceEqDiff] <;> rfl)) rfl rfl ?_
  refine o_rd (r_load1 (v := sa) Ty.agg22 (by simp only [ev, envOf, val_set, ofValue, ofCell, ↓reduceIte, Nat.reduceEqDiff] <;> rfl) (read_mt A1 (Nat.le_of_ble_eq_true rfl))) rfl rfl ?_
  refine o_rd (r_len (n := la.length) Try.underlying22 (by simp only [ev, envOf, val_set, ofValue, ofCell, ↓reduceIte, Nat.reduceEqDiff] <;> rfl) hl) rfl rfl ?_
  refine o_nw W2 (a_makeSlice (m := la.length) (p := la.length) Try.underlying22 Ty.csz24 Ty.zero24 Ty.byt24 rfl (by simp only [ev, envOf, val_set, ofValue, ofCell, ↓reduceIte, Nat.reduceEqDiff] <;> rfl) (by simp only [ev, envOf, val_set, ofValue, ofCell, ↓reduceIte, Nat.reduceEqDiff] <;> rfl) (Nat.le_refl _) (by omega)) rfl rfl rfl (by simp) ?_; intro H3 n3 W3 X3 A3
  have E3 := E2.trans X3
  have A1 := X3.keep _ _ A1
  have A2 := X3.keep _ _ A2
  refine o_rd (r_assign (by simp only [ev, envOf, val_set, ofValue, ofCell, ↓reduceIte, Nat.reduceEqDiff] <;> rfl)) rfl rfl ?_
  refine o_nil ?_
  refine w_seq ?_
  refine w_region ?_
  refine o_rd (r_move (by simp only [ev, envOf, val_set, ofValue, ofCell, ↓reduceIte, Nat.reduceEqDiff] <;> rfl)) rfl rfl ?_
  refine o_rd (r_fieldAddr Ty.fo24_2 (by simp only [ev, envOf, val_set, ofValue, ofCell, ↓reduceIte, Nat.reduceEqDiff] <;> rfl)) rfl rfl ?_
  refine o_rd (r_load1 (v := sa) Ty.agg22 (by simp only [ev, envOf, val_set, ofValue, ofCell, ↓reduceIte, Nat.reduceEqDiff] <;> rfl) (read_mt A1 (Nat.le_of_ble_eq_true rfl))) rfl rfl ?_
  obtain ⟨hsl, cs, hfs, hLA⟩ := hS.src
  replace hfs := firstSrc_ext E3 hfs
  have hcl := hLA.len
  refine o_cp (b := H2.n) W3 Try.underlying22 Ty.csz24 (by simp only [ev, envOf, val_set, ofValue, ofCell, ↓reduceIte, Nat.reduceEqDiff] <;> rfl) (by simp only [ev, envOf, val_set, ofValue, ofCell, ↓reduceIte, Nat.reduceEqDiff] <;> rfl) A3 (by simp [reps, AV.cells]) hsl hfs hcl hLA.ones rfl rfl ?_; intro H4 n4 W4 A4 K4
  have E4 := Ext.put W0 E3 (by have := E3.n; omega) K4 n4 W4
  have A1 := K4.own A1 (by omega)
  have A2 := K4.own A2 (by omega)
  refine o_nil ?_
  refine w_seq ?_
  refine w_seq ?_
  refine w_region ?_
  refine o_rd (r_move (by simp only [ev, envOf, val_set, ofValue, ofCell, ↓reduceIte, Nat.reduceEqDiff] <;> rfl)) rfl rfl ?_
  refine o_rd (r_len (n := la.length) Try.underlying22 (by simp only [ev, envOf, val_set, ofValue, ofCell, ↓reduceIte, Nat.reduceEqDiff] <;> rfl) rfl) rfl rfl ?_
  refine o_rd (r_move (by simp only [ev, envOf, val_set, ofValue, ofCell, ↓reduceIte, Nat.reduceEqDiff] <;> rfl)) rfl rfl ?_
  refine o_nil ?_
  refine w_block ?_
  refine w_loop (fun m s => ∃ (e : Env) (H : AH) (i : Nat) (c1 : List AV) (c2 : List AV), s = ⟨e, H, []⟩ ∧ e.val 1 = .ptr (.mt (H0.n)) (0) ∧ e.val 2 = .ptr (.mt (H1.n)) (0) ∧ e.val 3 = .sl (.mt H2.n) (0) (la.length) la.length ∧ e.val 14 = .int .i64 (((la.length : Nat) : Int)) ∧ e.val 15 = .int .i64 (((i : Nat) : Int)) ∧ Wf H ∧ Ext H0 H ∧ H.at (H0.n) = some (.row [.int .i64 (ka), .int .i64 (na), sa] 24 false none) ∧ H.at (H1.n) = some (.row [.int .i64 (0), .int .i64 (0), .nils] 24 false none) ∧ H.at (H2.n) = some (.row (c1 ++ c2) 24 false none) ∧ (OL H (H2.n + 1) H.n (la.take i) c1) ∧ (LA H0 (la.drop i) c2) ∧ (i + m = la.length)) (la.length) ⟨_, H4, 0, [], cs, rfl, (by simp only [val_set, ↓reduceIte, Nat.reduceEqDiff] <;> rfl), (by simp only [val_set, ↓reduceIte, Nat.reduceEqDiff] <;> rfl), (by simp only [val_set, ↓reduceIte, Nat.reduceEqDiff] <;> rfl), (by simp only [val_set, ↓reduceIte, Nat.reduceEqDiff] <;> rfl), (by simp only [val_set, ↓reduceIte, Nat.reduceEqDiff] <;> rfl), W4, E4, A1, A2, A4, .nil _ _ (by omega), hLA, by omega⟩ ?_
  intro m s hi
  obtain ⟨e, H5, i, c1, c2, rfl, v1, v2, v3, v14, v15, W5, E5, A1, A2, A4, HO, HL, him⟩ := hi
  have l5_0 := W5.lt A1
  have l5_1 := W5.lt A2
  have l5_2 := W5.lt A4
  refine w_seq ?_
  refine w_region ?_
  refine o_rd (r_lt (a := ((i : Nat) : Int)) (b := ((la.length : Nat) : Int)) (by simp only [ev, envOf, val_set, ofValue, ofCell, ↓reduceIte, Nat.reduceEqDiff, v1, v2, v3, v14, v15] <;> rfl) (by simp only [ev, envOf, val_set, ofValue, ofCell, ↓reduceIte, Nat.reduceEqDiff, v1, v2, v3, v14, v15] <;> rfl)) rfl rfl ?_
  refine o_nil ?_
  refine w_seq ?_
  refine w_cond (by simp only [ev, envOf, val_set, ofValue, ofCell, ↓reduceIte, Nat.reduceEqDiff, v1, v2, v3, v14, v15] <;> rfl) (fun hc6 => ?_) (fun hc6 => ?_)
  · have hc6 := dec_t hc6
    refine w_skip ?_
    refine w_seq ?_
    refine w_block ?_
    refine w_seq ?_
    refine w_region ?_
    refine o_rd (r_move (by simp only [ev, envOf, val_set, ofValue, ofCell, ↓reduceIte, Nat.reduceEqDiff, v1, v2, v3, v14, v15] <;> rfl)) rfl rfl ?_
    refine o_rd (r_assign (by simp only [ev, envOf, val_set, ofValue, ofCell, ↓reduceIte, Nat.reduceEqDiff, v1, v2, v3, v14, v15] <;> rfl)) rfl rfl ?_
    refine o_nil ?_
    refine w_region ?_
    have hi1 : i < la.length := by omega
    rw [List.drop_eq_getElem_cons hi1] at HL
    obtain ⟨ce, c3, rfl, hva, HL⟩ := HL.cons_inv
    have hcl := hva.len; have hc1 : c1.length = i * 3 := by have := HO.len; rw [List.length_take] at this; omega
    refine o_rd (r_move (by simp only [ev, envOf, val_set, ofValue, ofCell, ↓reduceIte, Nat.reduceEqDiff, v1, v2, v3, v14, v15] <;> rfl)) rfl rfl ?_
    refine o_rd (r_move (by simp only [ev, envOf, val_set, ofValue, ofCell, ↓reduceIte, Nat.reduceEqDiff, v1, v2, v3, v14, v15] <;> rfl)) rfl rfl ?_
    refine o_rd (r_move (by simp only [ev, envOf, val_set, ofValue, ofCell, ↓reduceIte, Nat.reduceEqDiff, v1, v2, v3, v14, v15] <;> rfl)) rfl rfl ?_
    refine o_rd (r_move (by simp only [ev, envOf, val_set, ofValue, ofCell, ↓reduceIte, Nat.reduceEqDiff, v1, v2, v3, v14, v15] <;> rfl)) rfl rfl ?_
    refine o_rd (r_indexAddr Try.underlying22 Ty.csz24 (by simp only [ev, envOf, val_set, ofValue, ofCell, ↓reduceIte, Nat.reduceEqDiff, v1, v2, v3, v14, v15] <;> rfl) (by simp only [ev, envOf, val_set, ofValue, ofCell, ↓reduceIte, Nat.reduceEqDiff, v1, v2, v3, v14, v15] <;> rfl) hi1) rfl rfl ?_
    refine o_rd (r_loadN Ty.agg24 Ty.csz24 (by simp only [ev, envOf, val_set, ofValue, ofCell, ↓reduceIte, Nat.reduceEqDiff, v1, v2, v3, v14, v15] <;> rfl) (cs := ce) (by rw [read_mt A4 (by simp; omega), Nat.zero_add, ← hc1, List.drop_left]; rw [show (3 : Nat) = ce.length from hcl.symm, List.take_left])) rfl rfl ?_
    refine o_cl rfl rfl (by simp only [evs, ev, envOf, val_set, ofValue, ofCell, ↓reduceIte, Nat.reduceEqDiff, v1, v2, v3, v14, v15] <;> rfl) rfl (ih _ (List.getElem_mem hi1) _ W5 _ (hva.ext E5)) rfl rfl ?_; rintro _ H7 ⟨cn, rfl, hon, X7⟩
    have W7 := X7.wf; have E7 := E5.trans X7
    have A1 := X7.keep _ _ A1
    have A2 := X7.keep _ _ A2
    have A4 := X7.keep _ _ A4
    have n7 := X7.n
    refine o_rd (r_indexAddr Try.underlying22 Ty.csz24 (by simp only [ev, envOf, val_set, ofValue, ofCell, ↓reduceIte, Nat.reduceEqDiff, v1, v2, v3, v14, v15] <;> rfl) (by simp only [ev, envOf, val_set, ofValue, ofCell, ↓reduceIte, Nat.reduceEqDiff, v1, v2, v3, v14, v15] <;> rfl) hi1) rfl rfl ?_
    refine o_st W7 (by simp only [ev, envOf, val_set, ofValue, ofCell, ↓reduceIte, Nat.reduceEqDiff, v1, v2, v3, v14, v15] <;> rfl) (by simp only [ev, envOf, val_set, ofValue, ofCell, ↓reduceIte, Nat.reduceEqDiff, v1, v2, v3, v14, v15] <;> rfl) A4 Ty.csz24 (by exact hon.len) (by rw [List.length_append, List.length_append]; omega) (by exact hon.va.ones) rfl rfl ?_; intro H8 n8 W8 A8 K8
    have A8 : H8.at (H2.n) = some (.row (c1 ++ cn ++ c3) 24 false none) := by have hq := A8; rw [splice_mid (by omega) (by rw [show (AV.agg cn).cells = cn from rfl, hon.len, hcl])] at hq; rw [List.append_assoc]; exact hq
    have E8 := Ext.put W0 E7 (by have := E7.n; omega) K8 n8 W8
    have A1 := K8.own A1 (by omega)
    have A2 := K8.own A2 (by omega)
    have HOn : OL H8 (H2.n + 1) H8.n (la.take i ++ [la[i]]) (c1 ++ cn) := OL.append (mid := H5.n) ((HO.ext X7).same (fun c x h1 h2 e => K8.own e (by omega))) (OL.one (by have := hon.same (H' := H8) (fun c x h1 h2 e => K8.own e (by omega)); rw [n8]; exact this))
    refine o_nil ?_
    refine w_region ?_
    refine o_rd (r_addE (a := ((i : Nat) : Int)) (b := 1) (c := ((i + 1 : Nat) : Int)) (by simp only [ev, envOf, val_set, ofValue, ofCell, ↓reduceIte, Nat.reduceEqDiff, v1, v2, v3, v14, v15] <;> rfl) (by simp only [ev, envOf, val_set, ofValue, ofCell, ↓reduceIte, Nat.reduceEqDiff, v1, v2, v3, v14, v15] <;> rfl) (by omega) (by omega) (by omega)) rfl rfl ?_
    refine o_rd (r_move (by simp only [ev, envOf, val_set, ofValue, ofCell, ↓reduceIte, Nat.reduceEqDiff, v1, v2, v3, v14, v15] <;> rfl)) rfl rfl ?_
    refine o_nil ?_
    exact ⟨m - 1, by omega, _, H8, i + 1, c1 ++ cn, c3, rfl, (by simp only [val_set, ↓reduceIte, Nat.reduceEqDiff, v1, v2, v3, v14, v15] <;> rfl), (by simp only [val_set, ↓reduceIte, Nat.reduceEqDiff, v1, v2, v3, v14, v15] <;> rfl), (by simp only [val_set, ↓reduceIte, Nat.reduceEqDiff, v1, v2, v3, v14, v15] <;> rfl), (by simp only [val_set, ↓reduceIte, Nat.reduceEqDiff, v1, v2, v3, v14, v15] <;> rfl), (by simp only [val_set, ↓reduceIte, Nat.reduceEqDiff, v1, v2, v3, v14, v15] <;> rfl), W8, E8, A1, A2, A8, by rw [List.take_succ_eq_append_getElem hi1]; exact HOn, HL, by omega⟩
  · have hc6 := dec_f hc6
    refine w_exit (blk_exit ?_)
    refine w_seq ?_
    refine w_seq ?_
    refine w_region ?_
    refine o_rd (r_move (by simp only [ev, envOf, val_set, ofValue, ofCell, ↓reduceIte, Nat.reduceEqDiff, v1, v2, v3, v14, v15] <;> rfl)) rfl rfl ?_
    refine o_rd (r_len (n := la.length) Try.underlying22 (by simp only [ev, envOf, val_set, ofValue, ofCell, ↓reduceIte, Nat.reduceEqDiff, v1, v2, v3, v14, v15] <;> rfl) rfl) rfl rfl ?_
    refine o_rd (r_eq (a := ((la.length : Nat) : Int)) (b := 0) (by simp only [ev, envOf, val_set, ofValue, ofCell, ↓reduceIte, Nat.reduceEqDiff, v1, v2, v3, v14, v15] <;> rfl) (by simp only [ev, envOf, val_set, ofValue, ofCell, ↓reduceIte, Nat.reduceEqDiff, v1, v2, v3, v14, v15] <;> rfl)) rfl rfl ?_
    refine o_nil ?_
    refine w_cond (by simp only [ev, envOf, val_set, ofValue, ofCell, ↓reduceIte, Nat.reduceEqDiff, v1, v2, v3, v14, v15] <;> rfl) (fun hc9 => ?_) (fun hc9 => ?_)
    · have hc9 := dec_t hc9
      refine w_region ?_
      refine o_rd (r_assign (by simp only [ev, envOf, val_set, ofValue, ofCell, ↓reduceIte, Nat.reduceEqDiff, v1, v2, v3, v14, v15] <;> rfl)) rfl rfl ?_
      refine o_nil ?_
      refine w_seq ?_
      refine w_region ?_
      refine o_rd (r_move (by simp only [ev, envOf, val_set, ofValue, ofCell, ↓reduceIte, Nat.reduceEqDiff, v1, v2, v3, v14, v15] <;> rfl)) rfl rfl ?_
      refine o_rd (r_fieldAddr Ty.fo24_2 (by simp only [ev, envOf, val_set, ofValue, ofCell, ↓reduceIte, Nat.reduceEqDiff, v1, v2, v3, v14, v15] <;> rfl)) rfl rfl ?_
      refine o_st W5 (by simp only [ev, envOf, val_set, ofValue, ofCell, ↓reduceIte, Nat.reduceEqDiff, v1, v2, v3, v14, v15] <;> rfl) (by simp only [ev, envOf, val_set, ofValue, ofCell, ↓reduceIte, Nat.reduceEqDiff, v1, v2, v3, v14, v15] <;> rfl) A1 Ty.csz22 rfl (Nat.le_of_ble_eq_true rfl) (by rfl) rfl rfl ?_; intro H10 n10 W10 A10 K10
      have A10 : H10.at H0.n = some (.row [.int .i64 (ka), .int .i64 (na), .nils] 24 false none) := A10
      have E10 := Ext.put W0 E5 (by have := E5.n; omega) K10 n10 W10
      have A2 := K10.own A2 (by omega)
      have A4 := K10.own A4 (by omega)
      refine o_nil ?_
      refine w_seq ?_
      refine w_region ?_
      refine o_rd (r_loadN (cs := [.int .i64 (ka), .int .i64 (na), .nils]) Ty.agg24 Ty.csz24 (by simp only [ev, envOf, val_set, ofValue, ofCell, ↓reduceIte, Nat.reduceEqDiff, v1, v2, v3, v14, v15] <;> rfl) (read_mt A10 (Nat.le_of_ble_eq_true rfl))) rfl rfl ?_
      refine o_st W10 (by simp only [ev, envOf, val_set, ofValue, ofCell, ↓reduceIte, Nat.reduceEqDiff, v1, v2, v3, v14, v15] <;> rfl) (by simp only [ev, envOf, val_set, ofValue, ofCell, ↓reduceIte, Nat.reduceEqDiff, v1, v2, v3, v14, v15] <;> rfl) A2 Ty.csz24 rfl (Nat.le_of_ble_eq_true rfl) (by rfl) rfl rfl ?_; intro H11 n11 W11 A11 K11
      have A11 : H11.at H1.n = some (.row [.int .i64 (ka), .int .i64 (na), .nils] 24 false none) := A11
      have E11 := Ext.put W0 E10 (by have := E10.n; omega) K11 n11 W11
      have A10 := K11.own A10 (by omega)
      have A4 := K11.own A4 (by omega)
      refine o_nil ?_
      have hr12 : H11.read (.mt H1.n) 0 3 = some [.int .i64 (ka), .int .i64 (na), .nils] := read_mt A11 (Nat.le_of_ble_eq_true rfl)
      refine w_ret ⟨.inr rfl, rfl, .agg [.int .i64 (ka), .int .i64 (na), .nils], (show resultA Try.prog [.cell 2 24] _ = _ by simp only [resultA, resultsA, envOf, val_set, ↓reduceIte, Nat.reduceEqDiff, Option.map_some, v1, v2, v3, v14, v15, hr12, Ty.agg24, Ty.csz24] <;> rfl), ?_⟩
      try dsimp only
      obtain rfl : i = la.length := (by omega)
      rw [List.take_length] at HO
      rw [List.drop_length] at HL
      obtain rfl : c2 = [] := (by cases HL; rfl)
      rw [List.append_nil] at A4
      replace HO := HO.same (fun c x h1 h2 e => K10.own e (by omega))
      replace HO := HO.same (fun c x h1 h2 e => K11.own e (by omega))
      obtain rfl : la = [] := List.eq_nil_of_length_eq_zero (by omega)
      exact ⟨_, rfl, .mk _ _ _ _ _ _ (.nil _ _ (by have := E11.n; omega)), E11⟩
    · have hc9 := dec_f hc9
      refine w_skip ?_
      refine w_seq ?_
      refine w_region ?_
      refine o_rd (r_move (by simp only [ev, envOf, val_set, ofValue, ofCell, ↓reduceIte, Nat.reduceEqDiff, v1, v2, v3, v14, v15] <;> rfl)) rfl rfl ?_
      refine o_rd (r_fieldAddr Ty.fo24_2 (by simp only [ev, envOf, val_set, ofValue, ofCell, ↓reduceIte, Nat.reduceEqDiff, v1, v2, v3, v14, v15] <;> rfl)) rfl rfl ?_
      refine o_st W5 (by simp only [ev, envOf, val_set, ofValue, ofCell, ↓reduceIte, Nat.reduceEqDiff, v1, v2, v3, v14, v15] <;> rfl) (by simp only [ev, envOf, val_set, ofValue, ofCell, ↓reduceIte, Nat.reduceEqDiff, v1, v2, v3, v14, v15] <;> rfl) A1 Ty.csz22 rfl (Nat.le_of_ble_eq_true rfl) (by rfl) rfl rfl ?_; intro H13 n13 W13 A13 K13
      have A13 : H13.at H0.n = some (.row [.int .i64 (ka), .int .i64 (na), .sl (.mt H2.n) (0) (la.length) la.length] 24 false none) := A13
      have E13 := Ext.put W0 E5 (by have := E5.n; omega) K13 n13 W13
      have A2 := K13.own A2 (by omega)
      have A4 := K13.own A4 (by omega)
      refine o_nil ?_
      refine w_seq ?_
      refine w_region ?_
      refine o_rd (r_loadN (cs := [.int .i64 (ka), .int .i64 (na), .sl (.mt H2.n) (0) (la.length) la.length]) Ty.agg24 Ty.csz24 (by simp only [ev, envOf, val_set, ofValue, ofCell, ↓reduceIte, Nat.reduceEqDiff, v1, v2, v3, v14, v15] <;> rfl) (read_mt A13 (Nat.le_of_ble_eq_true rfl))) rfl rfl ?_
      refine o_st W13 (by simp only [ev, envOf, val_set, ofValue, ofCell, ↓reduceIte, Nat.reduceEqDiff, v1, v2, v3, v14, v15] <;> rfl) (by simp only [ev, envOf, val_set, ofValue, ofCell, ↓reduceIte, Nat.reduceEqDiff, v1, v2, v3, v14, v15] <;> rfl) A2 Ty.csz24 rfl (Nat.le_of_ble_eq_true rfl) (by rfl) rfl rfl ?_; intro H14 n14 W14 A14 K14
      have A14 : H14.at H1.n = some (.row [.int .i64 (ka), .int .i64 (na), .sl (.mt H2.n) (0) (la.length) la.length] 24 false none) := A14
      have E14 := Ext.put W0 E13 (by have := E13.n; omega) K14 n14 W14
      have A13 := K14.own A13 (by omega)
      have A4 := K14.own A4 (by omega)
      refine o_nil ?_
      have hr15 : H14.read (.mt H1.n) 0 3 = some [.int .i64 (ka), .int .i64 (na), .sl (.mt H2.n) (0) (la.length) la.length] := read_mt A14 (Nat.le_of_ble_eq_true rfl)
      refine w_ret ⟨.inr rfl, rfl, .agg [.int .i64 (ka), .int .i64 (na), .sl (.mt H2.n) (0) (la.length) la.length], (show resultA Try.prog [.cell 2 24] _ = _ by simp only [resultA, resultsA, envOf, val_set, ↓reduceIte, Nat.reduceEqDiff, Option.map_some, v1, v2, v3, v14, v15, hr15, Ty.agg24, Ty.csz24] <;> rfl), ?_⟩
      try dsimp only
      obtain rfl : i = la.length := (by omega)
      rw [List.take_length] at HO
      rw [List.drop_length] at HL
      obtain rfl : c2 = [] := (by cases HL; rfl)
      rw [List.append_nil] at A4
      replace HO := HO.same (fun c x h1 h2 e => K13.own e (by omega))
      replace HO := HO.same (fun c x h1 h2 e => K14.own e (by omega))
      exact ⟨_, rfl, .mk _ _ _ _ _ _ (.sl _ _ H2.n (H2.n + 1) _ _ (by omega) (by omega) (by omega) A4 (by omega) (by rw [n14, n13]; exact HO)), E14⟩
theorem own_fin (ho : NoOrcBut [9, 35, 36] orc) (x : V) : x.cnt ≤ 1000000 → ∀ (H : AH), Wf H → ∀ (a : List AV), VA H x a → Fin Try.prog orc 44 [.agg a] H (fun r H' => ∃ a', r = .agg a' ∧ OA H' H.n H'.n x a' ∧ Ext H H') := by
  refine V.ind (p := fun x => x.cnt ≤ 1000000 → ∀ (H : AH), Wf H → ∀ (a : List AV), VA H x a → Fin Try.prog orc 44 [.agg a] H (fun r H' => ∃ a', r = .agg a' ∧ OA H' H.n H'.n x a' ∧ Ext H H')) ?_ x
  intro k n l ih hc H W a ha
  simp only [V.cnt] at hc
  cases ha with | mk _ _ _ s h1 =>
  exact own_step ho W k n l s h1 (by omega) (fun x hx H' W' a' ha' => ih x hx (by have := V.cnt_mem hx; omega) H' W' a' ha')
end Go.Proofs.Ytenfjdkeikjhlaa.Vs
