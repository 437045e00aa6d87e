/-
  value.Same, by slices.EqualFunc; numbers of squintlaw07.
-/
import Derived.Test.YtenfjdkeikjhlaaTy
import Derived.Test.YtenfjdkeikjhlaaVj
import Derived.Test.YtenfjdkeikjhlaaVjV
set_option autoImplicit false
set_option linter.unusedVariables false
set_option linter.unusedSimpArgs false
namespace Go.Proofs.Ytenfjdkeikjhlaa.Vs
open Go.VI Go.Proofs
variable {orc : CallF}
noncomputable def eqL (a b : List V) : Bool := @decide (a = b) (Classical.propDecidable _)
theorem eqL_t {a b : List V} : eqL a b = true ↔ a = b := by unfold eqL; exact @decide_eq_true_iff _ (Classical.propDecidable _)
theorem eqL_f {a b : List V} : eqL a b = false ↔ a ≠ b := by unfold eqL; exact @decide_eq_false_iff_not _ (Classical.propDecidable _)
theorem one3 {H : AH} {l : List V} {s : AV} (h : SA H l s) : s.one = true := by cases h <;> rfl
theorem ones3' {k n : Int} {s : AV} (h : s.one = true) : ones [.int .i64 k, .int .i64 n, s] = true := by
  show (match s.one with | true => true | false => false) = true
  rw [h]
set_option maxRecDepth 100000 in
set_option maxHeartbeats 4000000 in
theorem eqf_fin (ho : NoOrcBut [9, 35, 36] orc) {H0 : AH} (W0 : Wf H0) (la lb : List V) (sa sb : AV) (ha : SA H0 la sa) (hb : SA H0 lb sb) (ih : ∀ x ∈ la, ∀ (H : AH), Wf H → ∀ (y : V) (a b : List AV), VA H x a → VA H y b → Fin Try.prog orc 17 [.agg a, .agg b] H (fun r H' => r = .bool (eqV x y) ∧ Ext H H')) : Fin Try.prog orc 37 [sa, sb, .fn (.func 17) [] []] H0 (fun r H' => r = .bool (eqL la lb) ∧ Ext H0 H') := by
  have E0 := Ext.refl W0
  have bb1 := ha.bound; have bb2 := hb.bound
  refine fin_of Try.func37 rfl (by rw [Try.ntmps37]; simp) (ho _ rfl _ _) ?_
  rw [Try.ntmps37]
  refine w_seq ?_
  refine w_region ?_
  refine o_rd (r_assign (by simp only [ev, envOf, val_set, ofValue, ofCell, ↓reduceIte, Nat.reduceEqDiff] <;> rfl)) rfl rfl ?_
  refine o_nil ?_
  refine w_seq ?_
  refine w_seq ?_
  refine w_region ?_
  refine o_rd (r_move (by simp only [ev, envOf, val_set, ofValue, ofCell, ↓reduceIte, Nat.reduceEqDiff] <;> rfl)) rfl rfl ?_
  refine o_rd (r_len (n := la.length) Try.underlying22 (by simp only [ev, envOf, val_set, ofValue, ofCell, ↓reduceIte, Nat.reduceEqDiff] <;> rfl) ha.lenOf) rfl rfl ?_
  refine o_rd (r_move (by simp only [ev, envOf, val_set, ofValue, ofCell, ↓reduceIte, Nat.reduceEqDiff] <;> rfl)) rfl rfl ?_
  refine o_rd (r_len (n := lb.length) Try.underlying22 (by simp only [ev, envOf, val_set, ofValue, ofCell, ↓reduceIte, Nat.reduceEqDiff] <;> rfl) hb.lenOf) rfl rfl ?_
  refine o_rd (r_ne (a := ((la.length : Nat) : Int)) (b := ((lb.length : Nat) : Int)) (by simp only [ev, envOf, val_set, ofValue, ofCell, ↓reduceIte, Nat.reduceEqDiff] <;> rfl) (by simp only [ev, envOf, val_set, ofValue, ofCell, ↓reduceIte, Nat.reduceEqDiff] <;> rfl)) rfl rfl ?_
  refine o_nil ?_
  refine w_cond (by simp only [ev, envOf, val_set, ofValue, ofCell, ↓reduceIte, Nat.reduceEqDiff] <;> rfl) (fun hc1 => ?_) (fun hc1 => ?_)
  · have hc1 := dec_t hc1
    refine w_seq ?_
    refine w_region ?_
    refine o_rd (r_assign (by simp only [ev, envOf, val_set, ofValue, ofCell, ↓reduceIte, Nat.reduceEqDiff] <;> rfl)) rfl rfl ?_
    refine o_nil ?_
    refine w_ret ⟨.inr rfl, rfl, .bool (false), (show resultA Try.prog [.tmp 6] _ = _ by simp only [resultA, resultsA, envOf, val_set, ↓reduceIte, Nat.reduceEqDiff, Option.map_some] <;> rfl), ?_⟩
    try dsimp only
    refine ⟨?_, E0⟩; first | (refine congrArg AV.bool (Eq.symm (eqL_f.2 ?_)); intro hq; subst hq; omega) | (refine congrArg AV.bool (Eq.symm (eqL_t.2 ?_)); have hil : i = la.length := (by omega); subst hil; rw [List.take_length, List.take_of_length_le (by omega)] at htk; exact htk) | (refine congrArg AV.bool (Eq.symm (eqL_f.2 ?_)); intro hq; have hne := eqV_f.1 (show eqV la[i] lb[i] = false by simpa using hc1); subst hq; exact hne rfl)
  · have hc1 := dec_fn hc1
    refine w_skip ?_
    refine w_seq ?_
    refine w_seq ?_
    refine w_region ?_
    refine o_rd (r_move (by simp only [ev, envOf, val_set, ofValue, ofCell, ↓reduceIte, Nat.reduceEqDiff] <;> rfl)) rfl rfl ?_
    refine o_rd (r_len (n := la.length) Try.underlying22 (by simp only [ev, envOf, val_set, ofValue, ofCell, ↓reduceIte, Nat.reduceEqDiff] <;> rfl) ha.lenOf) rfl rfl ?_
    refine o_rd (r_move (by simp only [ev, envOf, val_set, ofValue, ofCell, ↓reduceIte, Nat.reduceEqDiff] <;> rfl)) rfl rfl ?_
    refine o_nil ?_
    refine w_block ?_
    refine w_loop (fun m s => ∃ (e : Env) (H : AH) (i : Nat), s = ⟨e, H, []⟩ ∧ e.val 1 = sb ∧ e.val 2 = .fn (.func 17) [] [] ∧ e.val 6 = .bool (false) ∧ e.val 15 = sa ∧ e.val 16 = .int .i64 (((la.length : Nat) : Int)) ∧ e.val 17 = .int .i64 (((i : Nat) : Int)) ∧ Wf H ∧ Ext H0 H ∧ (i + m = la.length) ∧ (la.take i = lb.take i)) (la.length) ⟨_, H0, 0, rfl, (by simp only [val_set, ↓reduceIte, Nat.reduceEqDiff] <;> rfl), (by simp only [val_set, ↓reduceIte, Nat.reduceEqDiff] <;> rfl), (by simp only [val_set, ↓reduceIte, Nat.reduceEqDiff] <;> rfl), (by simp only [val_set, ↓reduceIte, Nat.reduceEqDiff] <;> rfl), (by simp only [val_set, ↓reduceIte, Nat.reduceEqDiff] <;> rfl), (by simp only [val_set, ↓reduceIte, Nat.reduceEqDiff] <;> rfl), W0, E0, by omega, rfl⟩ ?_
    intro m s hi
    obtain ⟨e, H2, i, rfl, v1, v2, v6, v15, v16, v17, W2, E2, hm, htk⟩ := hi
    refine w_seq ?_
    refine w_region ?_
    refine o_rd (r_lt (a := ((i : Nat) : Int)) (b := ((la.length : Nat) : Int)) (by simp only [ev, envOf, val_set, ofValue, ofCell, ↓reduceIte, Nat.reduceEqDiff, v1, v2, v6, v15, v16, v17] <;> rfl) (by simp only [ev, envOf, val_set, ofValue, ofCell, ↓reduceIte, Nat.reduceEqDiff, v1, v2, v6, v15, v16, v17] <;> rfl)) rfl rfl ?_
    refine o_nil ?_
    refine w_seq ?_
    refine w_cond (by simp only [ev, envOf, val_set, ofValue, ofCell, ↓reduceIte, Nat.reduceEqDiff, v1, v2, v6, v15, v16, v17] <;> rfl) (fun hc3 => ?_) (fun hc3 => ?_)
    · have hc3 := dec_t hc3
      refine w_skip ?_
      refine w_seq ?_
      refine w_block ?_
      refine w_seq ?_
      refine w_region ?_
      have hi1 : i < la.length := by omega
      have hi2 : i < lb.length := by omega
      obtain ⟨loc1, off1, cap1, ce1, rfl, hr1, hv1⟩ := ha.get hi1
      obtain ⟨xk1, xn1, xl1, xs1, rfl, hxe1, hxs1⟩ := hv1.inv
      obtain ⟨loc2, off2, cap2, ce2, rfl, hr2, hv2⟩ := hb.get hi2
      obtain ⟨xk2, xn2, xl2, xs2, rfl, hxe2, hxs2⟩ := hv2.inv
      refine o_rd (r_move (by simp only [ev, envOf, val_set, ofValue, ofCell, ↓reduceIte, Nat.reduceEqDiff, v1, v2, v6, v15, v16, v17] <;> rfl)) rfl rfl ?_
      refine o_rd (r_indexAddr Try.underlying22 Ty.csz24 (by simp only [ev, envOf, val_set, ofValue, ofCell, ↓reduceIte, Nat.reduceEqDiff, v1, v2, v6, v15, v16, v17] <;> rfl) (by simp only [ev, envOf, val_set, ofValue, ofCell, ↓reduceIte, Nat.reduceEqDiff, v1, v2, v6, v15, v16, v17] <;> rfl) hi1) rfl rfl ?_
      refine o_rd (r_loadN Ty.agg24 Ty.csz24 (by simp only [ev, envOf, val_set, ofValue, ofCell, ↓reduceIte, Nat.reduceEqDiff, v1, v2, v6, v15, v16, v17] <;> rfl) (E2.read hr1)) rfl rfl ?_
      refine o_nw W2 (a_alloc Ty.zero24) rfl rfl rfl (by simp) ?_; intro H4 n4 W4 X4 A4
      have A4 : H4.at H2.n = some (.row [.int .i64 (0), .int .i64 (0), .nils] 24 false none) := A4
      have E4 := E2.trans X4
      have g4 : H0.n ≤ H2.n := E2.n
      refine o_rd (r_assign (by simp only [ev, envOf, val_set, ofValue, ofCell, ↓reduceIte, Nat.reduceEqDiff, v1, v2, v6, v15, v16, v17] <;> rfl)) rfl rfl ?_
      refine o_st W4 (by simp only [ev, envOf, val_set, ofValue, ofCell, ↓reduceIte, Nat.reduceEqDiff, v1, v2, v6, v15, v16, v17] <;> rfl) (by simp only [ev, envOf, val_set, ofValue, ofCell, ↓reduceIte, Nat.reduceEqDiff, v1, v2, v6, v15, v16, v17] <;> rfl) A4 Ty.csz24 rfl (Nat.le_of_ble_eq_true rfl) (by first | exact ones3' (one3 hxs1) | exact ones3' (one3 hxs2)) rfl rfl ?_; intro H5 n5 W5 A5 K5
      have A5 : H5.at H2.n = some (.row [.int .i64 (xk1), .int .i64 (xn1), xs1] 24 false none) := A5
      have E5 := Ext.put W0 E4 (by have := E4.n; omega) K5 n5 W5
      refine o_nil ?_
      refine w_seq ?_
      refine w_region ?_
      refine o_rd (r_move (by simp only [ev, envOf, val_set, ofValue, ofCell, ↓reduceIte, Nat.reduceEqDiff, v1, v2, v6, v15, v16, v17] <;> rfl)) rfl rfl ?_
      refine o_rd (r_move (by simp only [ev, envOf, val_set, ofValue, ofCell, ↓reduceIte, Nat.reduceEqDiff, v1, v2, v6, v15, v16, v17] <;> rfl)) rfl rfl ?_
      refine o_rd (r_indexAddr Try.underlying22 Ty.csz24 (by simp only [ev, envOf, val_set, ofValue, ofCell, ↓reduceIte, Nat.reduceEqDiff, v1, v2, v6, v15, v16, v17] <;> rfl) (by simp only [ev, envOf, val_set, ofValue, ofCell, ↓reduceIte, Nat.reduceEqDiff, v1, v2, v6, v15, v16, v17] <;> rfl) hi2) rfl rfl ?_
      refine o_rd (r_loadN Ty.agg24 Ty.csz24 (by simp only [ev, envOf, val_set, ofValue, ofCell, ↓reduceIte, Nat.reduceEqDiff, v1, v2, v6, v15, v16, v17] <;> rfl) (E5.read hr2)) rfl rfl ?_
      refine o_nw W5 (a_alloc Ty.zero24) rfl rfl rfl (by simp) ?_; intro H6 n6 W6 X6 A6
      have A6 : H6.at H5.n = some (.row [.int .i64 (0), .int .i64 (0), .nils] 24 false none) := A6
      have E6 := E5.trans X6
      have g6 : H0.n ≤ H5.n := E5.n
      have A5 := X6.keep _ _ A5
      refine o_st W6 (by simp only [ev, envOf, val_set, ofValue, ofCell, ↓reduceIte, Nat.reduceEqDiff, v1, v2, v6, v15, v16, v17] <;> rfl) (by simp only [ev, envOf, val_set, ofValue, ofCell, ↓reduceIte, Nat.reduceEqDiff, v1, v2, v6, v15, v16, v17] <;> rfl) A6 Ty.csz24 rfl (Nat.le_of_ble_eq_true rfl) (by first | exact ones3' (one3 hxs1) | exact ones3' (one3 hxs2)) rfl rfl ?_; intro H7 n7 W7 A7 K7
      have A7 : H7.at H5.n = some (.row [.int .i64 (xk2), .int .i64 (xn2), xs2] 24 false none) := A7
      have E7 := Ext.put W0 E6 (by have := E6.n; omega) K7 n7 W7
      have A5 := K7.own A5 (by omega)
      refine o_nil ?_
      refine w_seq ?_
      refine w_region ?_
      refine o_rd (r_move (by simp only [ev, envOf, val_set, ofValue, ofCell, ↓reduceIte, Nat.reduceEqDiff, v1, v2, v6, v15, v16, v17] <;> rfl)) rfl rfl ?_
      refine o_rd (r_loadN (cs := [.int .i64 (xk1), .int .i64 (xn1), xs1]) Ty.agg24 Ty.csz24 (by simp only [ev, envOf, val_set, ofValue, ofCell, ↓reduceIte, Nat.reduceEqDiff, v1, v2, v6, v15, v16, v17] <;> rfl) (read_mt A5 (Nat.le_of_ble_eq_true rfl))) rfl rfl ?_
      refine o_rd (r_loadN (cs := [.int .i64 (xk2), .int .i64 (xn2), xs2]) Ty.agg24 Ty.csz24 (by simp only [ev, envOf, val_set, ofValue, ofCell, ↓reduceIte, Nat.reduceEqDiff, v1, v2, v6, v15, v16, v17] <;> rfl) (read_mt A7 (Nat.le_of_ble_eq_true rfl))) rfl rfl ?_
      refine o_cl rfl (by simp only [ev, envOf, val_set, ofValue, ofCell, ↓reduceIte, Nat.reduceEqDiff, v1, v2, v6, v15, v16, v17] <;> rfl) (by simp only [evs, ev, envOf, val_set, ofValue, ofCell, ↓reduceIte, Nat.reduceEqDiff, v1, v2, v6, v15, v16, v17] <;> rfl) rfl (ih _ (List.getElem_mem hi1) _ W7 _ _ _ (hv1.ext E7) (hv2.ext E7)) rfl rfl ?_; rintro _ H8 ⟨rfl, X8⟩
      have W8 := X8.wf; have E8 := E7.trans X8
      have A5 := X8.keep _ _ A5
      have A7 := X8.keep _ _ A7
      have n8 := X8.n
      refine o_rd (r_not (by simp only [ev, envOf, val_set, ofValue, ofCell, ↓reduceIte, Nat.reduceEqDiff, v1, v2, v6, v15, v16, v17] <;> rfl)) rfl rfl ?_
      refine o_nil ?_
      refine w_cond (by simp only [ev, envOf, val_set, ofValue, ofCell, ↓reduceIte, Nat.reduceEqDiff, v1, v2, v6, v15, v16, v17] <;> rfl) (fun hc9 => ?_) (fun hc9 => ?_)
      · skip
        refine w_seq ?_
        refine w_region ?_
        refine o_rd (r_assign (by simp only [ev, envOf, val_set, ofValue, ofCell, ↓reduceIte, Nat.reduceEqDiff, v1, v2, v6, v15, v16, v17] <;> rfl)) rfl rfl ?_
        refine o_nil ?_
        refine w_ret ⟨.inr rfl, rfl, .bool (false), (show resultA Try.prog [.tmp 6] _ = _ by simp only [resultA, resultsA, envOf, val_set, ↓reduceIte, Nat.reduceEqDiff, Option.map_some, v1, v2, v6, v15, v16, v17] <;> rfl), ?_⟩
        try dsimp only
        refine ⟨?_, E8⟩; first | (refine congrArg AV.bool (Eq.symm (eqL_f.2 ?_)); intro hq; subst hq; omega) | (refine congrArg AV.bool (Eq.symm (eqL_t.2 ?_)); have hil : i = la.length := (by omega); subst hil; rw [List.take_length, List.take_of_length_le (by omega)] at htk; exact htk) | (refine congrArg AV.bool (Eq.symm (eqL_f.2 ?_)); intro hq; have hne := eqV_f.1 (show eqV la[i] lb[i] = false by simpa using hc9); subst hq; exact hne rfl)
      · skip
        refine w_skip ?_
        refine w_region ?_
        refine o_rd (r_addE (a := ((i : Nat) : Int)) (b := 1) (c := ((i + 1 : Nat) : Int)) (by simp only [ev, envOf, val_set, ofValue, ofCell, ↓reduceIte, Nat.reduceEqDiff, v1, v2, v6, v15, v16, v17] <;> rfl) (by simp only [ev, envOf, val_set, ofValue, ofCell, ↓reduceIte, Nat.reduceEqDiff, v1, v2, v6, v15, v16, v17] <;> rfl) (by omega) (by omega) (by omega)) rfl rfl ?_
        refine o_rd (r_move (by simp only [ev, envOf, val_set, ofValue, ofCell, ↓reduceIte, Nat.reduceEqDiff, v1, v2, v6, v15, v16, v17] <;> rfl)) rfl rfl ?_
        refine o_nil ?_
        have hee : la[i] = lb[i] := eqV_t.1 (by simpa using hc9)
        exact ⟨m - 1, by omega, _, H8, i + 1, rfl, (by simp only [val_set, ↓reduceIte, Nat.reduceEqDiff, v1, v2, v6, v15, v16, v17] <;> rfl), (by simp only [val_set, ↓reduceIte, Nat.reduceEqDiff, v1, v2, v6, v15, v16, v17] <;> rfl), (by simp only [val_set, ↓reduceIte, Nat.reduceEqDiff, v1, v2, v6, v15, v16, v17] <;> rfl), (by simp only [val_set, ↓reduceIte, Nat.reduceEqDiff, v1, v2, v6, v15, v16, v17] <;> rfl), (by simp only [val_set, ↓reduceIte, Nat.reduceEqDiff, v1, v2, v6, v15, v16, v17] <;> rfl), (by simp only [val_set, ↓reduceIte, Nat.reduceEqDiff, v1, v2, v6, v15, v16, v17] <;> rfl), W8, E8, by omega, by rw [List.take_succ_eq_append_getElem hi1, List.take_succ_eq_append_getElem hi2, htk, hee]⟩
    · have hc3 := dec_f hc3
      refine w_exit (blk_exit ?_)
      refine w_seq ?_
      refine w_region ?_
      refine o_rd (r_assign (by simp only [ev, envOf, val_set, ofValue, ofCell, ↓reduceIte, Nat.reduceEqDiff, v1, v2, v6, v15, v16, v17] <;> rfl)) rfl rfl ?_
      refine o_nil ?_
      refine w_ret ⟨.inr rfl, rfl, .bool (true), (show resultA Try.prog [.tmp 6] _ = _ by simp only [resultA, resultsA, envOf, val_set, ↓reduceIte, Nat.reduceEqDiff, Option.map_some, v1, v2, v6, v15, v16, v17] <;> rfl), ?_⟩
      try dsimp only
      refine ⟨?_, E2⟩; first | (refine congrArg AV.bool (Eq.symm (eqL_f.2 ?_)); intro hq; subst hq; omega) | (refine congrArg AV.bool (Eq.symm (eqL_t.2 ?_)); have hil : i = la.length := (by omega); subst hil; rw [List.take_length, List.take_of_length_le (by omega)] at htk; exact htk) | (refine congrArg AV.bool (Eq.symm (eqL_f.2 ?_)); intro hq; have hne := eqV_f.1 (show eqV la[i] lb[i] = false by simpa using hc3); subst hq; exact hne rfl)
set_option maxRecDepth 100000 in
set_option maxHeartbeats 4000000 in
theorem sameV_step (ho : NoOrcBut [9, 35, 36] orc) {H0 : AH} (W0 : Wf H0) (ka na kb nb : Int) (la lb : List V) (sa sb : AV) (ha : SA H0 la sa) (hb : SA H0 lb sb) (ih : ∀ x ∈ la, ∀ (H : AH), Wf H → ∀ (y : V) (a b : List AV), VA H x a → VA H y b → Fin Try.prog orc 17 [.agg a, .agg b] H (fun r H' => r = .bool (eqV x y) ∧ Ext H H')) : Fin Try.prog orc 17 [.agg [.int .i64 (ka), .int .i64 (na), sa], .agg [.int .i64 (kb), .int .i64 (nb), sb]] H0 (fun r H' => r = .bool (eqV (.mk ka na la) (.mk kb nb lb)) ∧ Ext H0 H') := by
  have E0 := Ext.refl W0
  refine fin_of Try.func17 rfl (by rw [Try.ntmps17]; simp) (ho _ rfl _ _) ?_
  rw [Try.ntmps17]
  refine w_seq ?_
  refine w_region ?_
  refine o_nw W0 (a_box (by simp only [ev, envOf, val_set, ofValue, ofCell, ↓reduceIte, Nat.reduceEqDiff] <;> rfl)) rfl rfl rfl (by simp) ?_; intro H1 n1 W1 X1 A1
  have A1 : H1.at H0.n = some (.row [.int .i64 (ka), .int .i64 (na), sa] 24 false none) := A1
  have E1 := E0.trans X1
  have g1 : H0.n ≤ H0.n := E0.n
  refine o_nw W1 (a_box (by simp only [ev, envOf, val_set, ofValue, ofCell, ↓reduceIte, Nat.reduceEqDiff] <;> rfl)) rfl rfl rfl (by simp) ?_; intro H2 n2 W2 X2 A2
  have A2 : H2.at H1.n = some (.row [.int .i64 (kb), .int .i64 (nb), sb] 24 false none) := A2
  have E2 := E1.trans X2
  have g2 : H0.n ≤ H1.n := E1.n
  have A1 := X2.keep _ _ A1
  refine o_rd (r_assign (by simp only [ev, envOf, val_set, ofValue, ofCell, ↓reduceIte, Nat.reduceEqDiff] <;> rfl)) rfl rfl ?_
  refine o_nil ?_
  refine w_seq ?_
  refine w_region ?_
  refine o_rd (r_fieldAddr Ty.fo24_0 (by simp only [ev, envOf, val_set, ofValue, ofCell, ↓reduceIte, Nat.reduceEqDiff] <;> rfl)) rfl rfl ?_
  refine o_rd (r_load1 (v := .int .i64 (ka)) Ty.agg3 (by simp only [ev, envOf, val_set, ofValue, ofCell, ↓reduceIte, Nat.reduceEqDiff] <;> rfl) (read_mt A1 (Nat.le_of_ble_eq_true rfl))) rfl rfl ?_
  refine o_rd (r_fieldAddr Ty.fo24_0 (by simp only [ev, envOf, val_set, ofValue, ofCell, ↓reduceIte, Nat.reduceEqDiff] <;> rfl)) rfl rfl ?_
  refine o_rd (r_load1 (v := .int .i64 (kb)) Ty.agg3 (by simp only [ev, envOf, val_set, ofValue, ofCell, ↓reduceIte, Nat.reduceEqDiff] <;> rfl) (read_mt A2 (Nat.le_of_ble_eq_true rfl))) rfl rfl ?_
  refine o_rd (r_eq (a := ka) (b := kb) (by simp only [ev, envOf, val_set, ofValue, ofCell, ↓reduceIte, Nat.reduceEqDiff] <;> rfl) (by simp only [ev, envOf, val_set, ofValue, ofCell, ↓reduceIte, Nat.reduceEqDiff] <;> rfl)) rfl rfl ?_
  refine o_rd (r_move (by simp only [ev, envOf, val_set, ofValue, ofCell, ↓reduceIte, Nat.reduceEqDiff] <;> rfl)) rfl rfl ?_
  cases hg3 : (decide (ka = kb) : Bool)
  · have hg3 := dec_f hg3
    refine o_sk rfl ((wanted_of (b := false) rfl rfl rfl (by simp only [val_set, ↓reduceIte, Nat.reduceEqDiff] <;> rfl)).trans rfl) ?_
    refine o_sk rfl ((wanted_of (b := false) rfl rfl rfl (by simp only [val_set, ↓reduceIte, Nat.reduceEqDiff] <;> rfl)).trans rfl) ?_
    refine o_sk rfl ((wanted_of (b := false) rfl rfl rfl (by simp only [val_set, ↓reduceIte, Nat.reduceEqDiff] <;> rfl)).trans rfl) ?_
    refine o_sk rfl ((wanted_of (b := false) rfl rfl rfl (by simp only [val_set, ↓reduceIte, Nat.reduceEqDiff] <;> rfl)).trans rfl) ?_
    refine o_sk rfl ((wanted_of (b := false) rfl rfl rfl (by simp only [val_set, ↓reduceIte, Nat.reduceEqDiff] <;> rfl)).trans rfl) ?_
    refine o_rd (r_pick (t := false) (by simp only [ev, envOf, val_set, ofValue, ofCell, ↓reduceIte, Nat.reduceEqDiff] <;> rfl) (fun h => by cases h) (fun _ => (by simp only [ev, envOf, val_set, ofValue, ofCell, ↓reduceIte, Nat.reduceEqDiff] <;> rfl))) rfl rfl ?_
    refine o_rd (r_move (by simp only [ev, envOf, val_set, ofValue, ofCell, ↓reduceIte, Nat.reduceEqDiff] <;> rfl)) rfl rfl ?_
    refine o_sk rfl ((wanted_of (b := false) rfl rfl rfl (by simp only [val_set, ↓reduceIte, Nat.reduceEqDiff] <;> rfl)).trans rfl) ?_
    refine o_sk rfl ((wanted_of (b := false) rfl rfl rfl (by simp only [val_set, ↓reduceIte, Nat.reduceEqDiff] <;> rfl)).trans rfl) ?_
    refine o_sk rfl ((wanted_of (b := false) rfl rfl rfl (by simp only [val_set, ↓reduceIte, Nat.reduceEqDiff] <;> rfl)).trans rfl) ?_
    refine o_sk rfl ((wanted_of (b := false) rfl rfl rfl (by simp only [val_set, ↓reduceIte, Nat.reduceEqDiff] <;> rfl)).trans rfl) ?_
    refine o_sk rfl ((wanted_of (b := false) rfl rfl rfl (by simp only [val_set, ↓reduceIte, Nat.reduceEqDiff] <;> rfl)).trans rfl) ?_
    refine o_rd (r_pick (t := false) (by simp only [ev, envOf, val_set, ofValue, ofCell, ↓reduceIte, Nat.reduceEqDiff] <;> rfl) (fun h => by cases h) (fun _ => (by simp only [ev, envOf, val_set, ofValue, ofCell, ↓reduceIte, Nat.reduceEqDiff] <;> rfl))) rfl rfl ?_
    refine o_rd (r_assign (by simp only [ev, envOf, val_set, ofValue, ofCell, ↓reduceIte, Nat.reduceEqDiff] <;> rfl)) rfl rfl ?_
    refine o_nil ?_
    refine w_ret ⟨.inr rfl, rfl, .bool (false), (show resultA Try.prog [.tmp 4] _ = _ by simp only [resultA, resultsA, envOf, val_set, ↓reduceIte, Nat.reduceEqDiff, Option.map_some] <;> rfl), ?_⟩
    try dsimp only
    refine ⟨?_, E2⟩; first | (refine congrArg AV.bool (Eq.symm (eqV_head ?_)); omega) | (have e1 : ka = kb := (by omega); have e2 : na = nb := (by omega); subst e1; subst e2; refine congrArg AV.bool ?_; rw [Bool.eq_iff_iff, eqL_t, eqV_t]; constructor; (intro h; rw [h]); (intro h; injection h))
  · have hg3 := dec_t hg3
    refine o_rd (r_fieldAddr Ty.fo24_1 (by simp only [ev, envOf, val_set, ofValue, ofCell, ↓reduceIte, Nat.reduceEqDiff] <;> rfl)) rfl ((wanted_of (b := true) rfl rfl rfl (by simp only [val_set, ↓reduceIte, Nat.reduceEqDiff] <;> rfl)).trans rfl) ?_
    refine o_rd (r_load1 (v := .int .i64 (na)) Ty.agg3 (by simp only [ev, envOf, val_set, ofValue, ofCell, ↓reduceIte, Nat.reduceEqDiff] <;> rfl) (read_mt A1 (Nat.le_of_ble_eq_true rfl))) rfl ((wanted_of (b := true) rfl rfl rfl (by simp only [val_set, ↓reduceIte, Nat.reduceEqDiff] <;> rfl)).trans rfl) ?_
    refine o_rd (r_fieldAddr Ty.fo24_1 (by simp only [ev, envOf, val_set, ofValue, ofCell, ↓reduceIte, Nat.reduceEqDiff] <;> rfl)) rfl ((wanted_of (b := true) rfl rfl rfl (by simp only [val_set, ↓reduceIte, Nat.reduceEqDiff] <;> rfl)).trans rfl) ?_
    refine o_rd (r_load1 (v := .int .i64 (nb)) Ty.agg3 (by simp only [ev, envOf, val_set, ofValue, ofCell, ↓reduceIte, Nat.reduceEqDiff] <;> rfl) (read_mt A2 (Nat.le_of_ble_eq_true rfl))) rfl ((wanted_of (b := true) rfl rfl rfl (by simp only [val_set, ↓reduceIte, Nat.reduceEqDiff] <;> rfl)).trans rfl) ?_
    refine o_rd (r_eq (a := na) (b := nb) (by simp only [ev, envOf, val_set, ofValue, ofCell, ↓reduceIte, Nat.reduceEqDiff] <;> rfl) (by simp only [ev, envOf, val_set, ofValue, ofCell, ↓reduceIte, Nat.reduceEqDiff] <;> rfl)) rfl ((wanted_of (b := true) rfl rfl rfl (by simp only [val_set, ↓reduceIte, Nat.reduceEqDiff] <;> rfl)).trans rfl) ?_
    refine o_rd (r_pick (t := true) (by simp only [ev, envOf, val_set, ofValue, ofCell, ↓reduceIte, Nat.reduceEqDiff] <;> rfl) (fun _ => (by simp only [ev, envOf, val_set, ofValue, ofCell, ↓reduceIte, Nat.reduceEqDiff] <;> rfl)) (fun h => by cases h)) rfl rfl ?_
    refine o_rd (r_move (by simp only [ev, envOf, val_set, ofValue, ofCell, ↓reduceIte, Nat.reduceEqDiff] <;> rfl)) rfl rfl ?_
    cases hg4 : (decide (na = nb) : Bool)
    · have hg4 := dec_f hg4
      refine o_sk rfl ((wanted_of (b := false) rfl rfl rfl (by simp only [val_set, ↓reduceIte, Nat.reduceEqDiff] <;> rfl)).trans rfl) ?_
      refine o_sk rfl ((wanted_of (b := false) rfl rfl rfl (by simp only [val_set, ↓reduceIte, Nat.reduceEqDiff] <;> rfl)).trans rfl) ?_
      refine o_sk rfl ((wanted_of (b := false) rfl rfl rfl (by simp only [val_set, ↓reduceIte, Nat.reduceEqDiff] <;> rfl)).trans rfl) ?_
      refine o_sk rfl ((wanted_of (b := false) rfl rfl rfl (by simp only [val_set, ↓reduceIte, Nat.reduceEqDiff] <;> rfl)).trans rfl) ?_
      refine o_sk rfl ((wanted_of (b := false) rfl rfl rfl (by simp only [val_set, ↓reduceIte, Nat.reduceEqDiff] <;> rfl)).trans rfl) ?_
      refine o_rd (r_pick (t := false) (by simp only [ev, envOf, val_set, ofValue, ofCell, ↓reduceIte, Nat.reduceEqDiff] <;> rfl) (fun h => by cases h) (fun _ => (by simp only [ev, envOf, val_set, ofValue, ofCell, ↓reduceIte, Nat.reduceEqDiff] <;> rfl))) rfl rfl ?_
      refine o_rd (r_assign (by simp only [ev, envOf, val_set, ofValue, ofCell, ↓reduceIte, Nat.reduceEqDiff] <;> rfl)) rfl rfl ?_
      refine o_nil ?_
      refine w_ret ⟨.inr rfl, rfl, .bool (false), (show resultA Try.prog [.tmp 4] _ = _ by simp only [resultA, resultsA, envOf, val_set, ↓reduceIte, Nat.reduceEqDiff, Option.map_some] <;> rfl), ?_⟩
      try dsimp only
      refine ⟨?_, E2⟩; first | (refine congrArg AV.bool (Eq.symm (eqV_head ?_)); omega) | (have e1 : ka = kb := (by omega); have e2 : na = nb := (by omega); subst e1; subst e2; refine congrArg AV.bool ?_; rw [Bool.eq_iff_iff, eqL_t, eqV_t]; constructor; (intro h; rw [h]); (intro h; injection h))
    · have hg4 := dec_t hg4
      refine o_rd (r_fieldAddr Ty.fo24_2 (by simp only [ev, envOf, val_set, ofValue, ofCell, ↓reduceIte, Nat.reduceEqDiff] <;> rfl)) rfl ((wanted_of (b := true) rfl rfl rfl (by simp only [val_set, ↓reduceIte, Nat.reduceEqDiff] <;> rfl)).trans rfl) ?_
      refine o_rd (r_load1 (v := sa) Ty.agg22 (by simp only [ev, envOf, val_set, ofValue, ofCell, ↓reduceIte, Nat.reduceEqDiff] <;> rfl) (read_mt A1 (Nat.le_of_ble_eq_true rfl))) rfl ((wanted_of (b := true) rfl rfl rfl (by simp only [val_set, ↓reduceIte, Nat.reduceEqDiff] <;> rfl)).trans rfl) ?_
      refine o_rd (r_fieldAddr Ty.fo24_2 (by simp only [ev, envOf, val_set, ofValue, ofCell, ↓reduceIte, Nat.reduceEqDiff] <;> rfl)) rfl ((wanted_of (b := true) rfl rfl rfl (by simp only [val_set, ↓reduceIte, Nat.reduceEqDiff] <;> rfl)).trans rfl) ?_
      refine o_rd (r_load1 (v := sb) Ty.agg22 (by simp only [ev, envOf, val_set, ofValue, ofCell, ↓reduceIte, Nat.reduceEqDiff] <;> rfl) (read_mt A2 (Nat.le_of_ble_eq_true rfl))) rfl ((wanted_of (b := true) rfl rfl rfl (by simp only [val_set, ↓reduceIte, Nat.reduceEqDiff] <;> rfl)).trans rfl) ?_
      refine o_cl rfl rfl (by simp only [evs, ev, envOf, val_set, ofValue, ofCell, ↓reduceIte, Nat.reduceEqDiff] <;> rfl) rfl (eqf_fin ho W2 la lb sa sb (ha.ext E2) (hb.ext E2) ih) rfl ((wanted_of (b := true) rfl rfl rfl (by simp only [val_set, ↓reduceIte, Nat.reduceEqDiff] <;> rfl)).trans rfl) ?_; rintro _ H5 ⟨rfl, X5⟩
      have W5 := X5.wf; have E5 := E2.trans X5
      have A1 := X5.keep _ _ A1
      have A2 := X5.keep _ _ A2
      have n5 := X5.n
      refine o_rd (r_pick (t := true) (by simp only [ev, envOf, val_set, ofValue, ofCell, ↓reduceIte, Nat.reduceEqDiff] <;> rfl) (fun _ => (by simp only [ev, envOf, val_set, ofValue, ofCell, ↓reduceIte, Nat.reduceEqDiff] <;> rfl)) (fun h => by cases h)) rfl rfl ?_
      refine o_rd (r_assign (by simp only [ev, envOf, val_set, ofValue, ofCell, ↓reduceIte, Nat.reduceEqDiff] <;> rfl)) rfl rfl ?_
      refine o_nil ?_
      refine w_ret ⟨.inr rfl, rfl, .bool (eqL la lb), (show resultA Try.prog [.tmp 4] _ = _ by simp only [resultA, resultsA, envOf, val_set, ↓reduceIte, Nat.reduceEqDiff, Option.map_some] <;> rfl), ?_⟩
      try dsimp only
      refine ⟨?_, E5⟩; first | (refine congrArg AV.bool (Eq.symm (eqV_head ?_)); omega) | (have e1 : ka = kb := (by omega); have e2 : na = nb := (by omega); subst e1; subst e2; refine congrArg AV.bool ?_; rw [Bool.eq_iff_iff, eqL_t, eqV_t]; constructor; (intro h; rw [h]); (intro h; injection h))
theorem sameV_fin (ho : NoOrcBut [9, 35, 36] orc) (x : V) : ∀ (H : AH), Wf H → ∀ (y : V) (a b : List AV), VA H x a → VA H y b → Fin Try.prog orc 17 [.agg a, .agg b] H (fun r H' => r = .bool (eqV x y) ∧ Ext H H') := by
  refine V.ind (p := fun x => ∀ (H : AH), Wf H → ∀ (y : V) (a b : List AV), VA H x a → VA H y b → Fin Try.prog orc 17 [.agg a, .agg b] H (fun r H' => r = .bool (eqV x y) ∧ Ext H H')) ?_ x
  intro k n l ih H W y a b ha hb
  cases ha with | mk _ _ _ s h1 =>
  cases hb with | mk k2 n2 l2 s2 h2 =>
  exact sameV_step ho W k n k2 n2 l l2 s s2 h1 h2 ih
set_option maxRecDepth 100000 in
set_option maxHeartbeats 4000000 in
theorem numbers_fin (ho : NoOrcBut [9, 35, 36] orc) {H0 : AH} (W0 : Wf H0) (la lb : List Int) (sa sb : AV) (ha : SI H0 la sa) (hb : SI H0 lb sb) : Fin Try.prog orc 19 [sa, sb] H0 (fun r H' => r = .bool (decide (la = lb)) ∧ Ext H0 H') := by
  have E0 := Ext.refl W0
  have bb1 := ha.bound; have bb2 := hb.bound
  refine fin_of Try.func19 rfl (by rw [Try.ntmps19]; simp) (ho _ rfl _ _) ?_
  rw [Try.ntmps19]
  refine w_seq ?_
  refine w_region ?_
  refine o_rd (r_assign (by simp only [ev, envOf, val_set, ofValue, ofCell, ↓reduceIte, Nat.reduceEqDiff] <;> rfl)) rfl rfl ?_
  refine o_nil ?_
  refine w_seq ?_
  refine w_seq ?_
  refine w_region ?_
  refine o_rd (r_move (by simp only [ev, envOf, val_set, ofValue, ofCell, ↓reduceIte, Nat.reduceEqDiff] <;> rfl)) rfl rfl ?_
  refine o_rd (r_len (n := la.length) Try.underlying28 (by simp only [ev, envOf, val_set, ofValue, ofCell, ↓reduceIte, Nat.reduceEqDiff] <;> rfl) ha.lenOf) rfl rfl ?_
  refine o_rd (r_move (by simp only [ev, envOf, val_set, ofValue, ofCell, ↓reduceIte, Nat.reduceEqDiff] <;> rfl)) rfl rfl ?_
  refine o_rd (r_len (n := lb.length) Try.underlying28 (by simp only [ev, envOf, val_set, ofValue, ofCell, ↓reduceIte, Nat.reduceEqDiff] <;> rfl) hb.lenOf) rfl rfl ?_
  refine o_rd (r_ne (a := ((la.length : Nat) : Int)) (b := ((lb.length : Nat) : Int)) (by simp only [ev, envOf, val_set, ofValue, ofCell, ↓reduceIte, Nat.reduceEqDiff] <;> rfl) (by simp only [ev, envOf, val_set, ofValue, ofCell, ↓reduceIte, Nat.reduceEqDiff] <;> rfl)) rfl rfl ?_
  refine o_nil ?_
  refine w_cond (by simp only [ev, envOf, val_set, ofValue, ofCell, ↓reduceIte, Nat.reduceEqDiff] <;> rfl) (fun hc1 => ?_) (fun hc1 => ?_)
  · have hc1 := dec_t hc1
    refine w_seq ?_
    refine w_region ?_
    refine o_rd (r_assign (by simp only [ev, envOf, val_set, ofValue, ofCell, ↓reduceIte, Nat.reduceEqDiff] <;> rfl)) rfl rfl ?_
    refine o_nil ?_
    refine w_ret ⟨.inr rfl, rfl, .bool (false), (show resultA Try.prog [.tmp 4] _ = _ by simp only [resultA, resultsA, envOf, val_set, ↓reduceIte, Nat.reduceEqDiff, Option.map_some] <;> rfl), ?_⟩
    try dsimp only
    refine ⟨?_, E0⟩; first | (refine congrArg AV.bool (Eq.symm (decide_eq_false ?_)); intro hq; subst hq; omega) | (refine congrArg AV.bool (Eq.symm (decide_eq_true ?_)); have hil : i = la.length := (by omega); subst hil; rw [List.take_length, List.take_of_length_le (by omega)] at htk; exact htk) | (refine congrArg AV.bool (Eq.symm (decide_eq_false ?_)); intro hq; subst hq; exact hc1 rfl)
  · have hc1 := dec_fn hc1
    refine w_skip ?_
    refine w_seq ?_
    refine w_seq ?_
    refine w_region ?_
    refine o_rd (r_assign (by simp only [ev, envOf, val_set, ofValue, ofCell, ↓reduceIte, Nat.reduceEqDiff] <;> rfl)) rfl rfl ?_
    refine o_nil ?_
    refine w_block ?_
    refine w_loop (fun m s => ∃ (e : Env) (H : AH) (i : Nat), s = ⟨e, H, []⟩ ∧ e.val 0 = sa ∧ e.val 1 = sb ∧ e.val 4 = .bool (false) ∧ e.val 5 = .int .i64 (((i : Nat) : Int)) ∧ Wf H ∧ Ext H0 H ∧ (i + m = la.length) ∧ (la.take i = lb.take i)) (la.length) ⟨_, H0, 0, rfl, (by simp only [val_set, ↓reduceIte, Nat.reduceEqDiff] <;> rfl), (by simp only [val_set, ↓reduceIte, Nat.reduceEqDiff] <;> rfl), (by simp only [val_set, ↓reduceIte, Nat.reduceEqDiff] <;> rfl), (by simp only [val_set, ↓reduceIte, Nat.reduceEqDiff] <;> rfl), W0, E0, by omega, rfl⟩ ?_
    intro m s hi
    obtain ⟨e, H2, i, rfl, v0, v1, v4, v5, W2, E2, hm, htk⟩ := hi
    refine w_seq ?_
    refine w_seq ?_
    refine w_region ?_
    refine o_rd (r_move (by simp only [ev, envOf, val_set, ofValue, ofCell, ↓reduceIte, Nat.reduceEqDiff, v0, v1, v4, v5] <;> rfl)) rfl rfl ?_
    refine o_rd (r_move (by simp only [ev, envOf, val_set, ofValue, ofCell, ↓reduceIte, Nat.reduceEqDiff, v0, v1, v4, v5] <;> rfl)) rfl rfl ?_
    refine o_rd (r_len (n := la.length) Try.underlying28 (by simp only [ev, envOf, val_set, ofValue, ofCell, ↓reduceIte, Nat.reduceEqDiff, v0, v1, v4, v5] <;> rfl) ha.lenOf) rfl rfl ?_
    refine o_rd (r_lt (a := ((i : Nat) : Int)) (b := ((la.length : Nat) : Int)) (by simp only [ev, envOf, val_set, ofValue, ofCell, ↓reduceIte, Nat.reduceEqDiff, v0, v1, v4, v5] <;> rfl) (by simp only [ev, envOf, val_set, ofValue, ofCell, ↓reduceIte, Nat.reduceEqDiff, v0, v1, v4, v5] <;> rfl)) rfl rfl ?_
    refine o_nil ?_
    refine w_cond (by simp only [ev, envOf, val_set, ofValue, ofCell, ↓reduceIte, Nat.reduceEqDiff, v0, v1, v4, v5] <;> rfl) (fun hc3 => ?_) (fun hc3 => ?_)
    · have hc3 := dec_t hc3
      refine w_skip ?_
      refine w_seq ?_
      refine w_block ?_
      refine w_seq ?_
      refine w_draw (ms := [0, 0, 3, 7, 0, 0, 48, 112, 255]) (ord := [0, 1, 2, 3, 4, 5, 6, 7, 8]) (by kernel_rfl) (by kernel_rfl) (by kernel_rfl) ?_
      have hi1 : i < la.length := by omega
      have hi2 : i < lb.length := by omega
      obtain ⟨loc1, off1, cap1, rfl, hr1⟩ := ha.get hi1
      obtain ⟨loc2, off2, cap2, rfl, hr2⟩ := hb.get hi2
      refine d_rd rfl (r_move (by simp only [ev, envOf, val_set, ofValue, ofCell, ↓reduceIte, Nat.reduceEqDiff, v0, v1, v4, v5] <;> rfl)) rfl rfl ?_
      refine d_rd rfl (r_move (by simp only [ev, envOf, val_set, ofValue, ofCell, ↓reduceIte, Nat.reduceEqDiff, v0, v1, v4, v5] <;> rfl)) rfl rfl ?_
      refine d_rd rfl (r_indexAddr Try.underlying28 Ty.csz3 (by simp only [ev, envOf, val_set, ofValue, ofCell, ↓reduceIte, Nat.reduceEqDiff, v0, v1, v4, v5] <;> rfl) (by simp only [ev, envOf, val_set, ofValue, ofCell, ↓reduceIte, Nat.reduceEqDiff, v0, v1, v4, v5] <;> rfl) hi1) rfl rfl ?_
      refine d_rd rfl (r_load1 Ty.agg3 (by simp only [ev, envOf, val_set, ofValue, ofCell, ↓reduceIte, Nat.reduceEqDiff, v0, v1, v4, v5] <;> rfl) (E2.read hr1)) rfl rfl ?_
      refine d_rd rfl (r_move (by simp only [ev, envOf, val_set, ofValue, ofCell, ↓reduceIte, Nat.reduceEqDiff, v0, v1, v4, v5] <;> rfl)) rfl rfl ?_
      refine d_rd rfl (r_move (by simp only [ev, envOf, val_set, ofValue, ofCell, ↓reduceIte, Nat.reduceEqDiff, v0, v1, v4, v5] <;> rfl)) rfl rfl ?_
      refine d_rd rfl (r_indexAddr Try.underlying28 Ty.csz3 (by simp only [ev, envOf, val_set, ofValue, ofCell, ↓reduceIte, Nat.reduceEqDiff, v0, v1, v4, v5] <;> rfl) (by simp only [ev, envOf, val_set, ofValue, ofCell, ↓reduceIte, Nat.reduceEqDiff, v0, v1, v4, v5] <;> rfl) hi2) rfl rfl ?_
      refine d_rd rfl (r_load1 Ty.agg3 (by simp only [ev, envOf, val_set, ofValue, ofCell, ↓reduceIte, Nat.reduceEqDiff, v0, v1, v4, v5] <;> rfl) (E2.read hr2)) rfl rfl ?_
      refine d_rd rfl (r_ne (a := la[i]) (b := lb[i]) (by simp only [ev, envOf, val_set, ofValue, ofCell, ↓reduceIte, Nat.reduceEqDiff, v0, v1, v4, v5] <;> rfl) (by simp only [ev, envOf, val_set, ofValue, ofCell, ↓reduceIte, Nat.reduceEqDiff, v0, v1, v4, v5] <;> rfl)) rfl rfl ?_
      refine d_nil ?_
      refine w_cond (by simp only [ev, envOf, val_set, ofValue, ofCell, ↓reduceIte, Nat.reduceEqDiff, v0, v1, v4, v5] <;> rfl) (fun hc4 => ?_) (fun hc4 => ?_)
      · have hc4 := dec_t hc4
        refine w_seq ?_
        refine w_region ?_
        refine o_rd (r_assign (by simp only [ev, envOf, val_set, ofValue, ofCell, ↓reduceIte, Nat.reduceEqDiff, v0, v1, v4, v5] <;> rfl)) rfl rfl ?_
        refine o_nil ?_
        refine w_ret ⟨.inr rfl, rfl, .bool (false), (show resultA Try.prog [.tmp 4] _ = _ by simp only [resultA, resultsA, envOf, val_set, ↓reduceIte, Nat.reduceEqDiff, Option.map_some, v0, v1, v4, v5] <;> rfl), ?_⟩
        try dsimp only
        refine ⟨?_, E2⟩; first | (refine congrArg AV.bool (Eq.symm (decide_eq_false ?_)); intro hq; subst hq; omega) | (refine congrArg AV.bool (Eq.symm (decide_eq_true ?_)); have hil : i = la.length := (by omega); subst hil; rw [List.take_length, List.take_of_length_le (by omega)] at htk; exact htk) | (refine congrArg AV.bool (Eq.symm (decide_eq_false ?_)); intro hq; subst hq; exact hc4 rfl)
      · have hc4 := dec_fn hc4
        refine w_skip ?_
        refine w_region ?_
        refine o_rd (r_move (by simp only [ev, envOf, val_set, ofValue, ofCell, ↓reduceIte, Nat.reduceEqDiff, v0, v1, v4, v5] <;> rfl)) rfl rfl ?_
        refine o_rd (r_addE (a := ((i : Nat) : Int)) (b := 1) (c := ((i + 1 : Nat) : Int)) (by simp only [ev, envOf, val_set, ofValue, ofCell, ↓reduceIte, Nat.reduceEqDiff, v0, v1, v4, v5] <;> rfl) (by simp only [ev, envOf, val_set, ofValue, ofCell, ↓reduceIte, Nat.reduceEqDiff, v0, v1, v4, v5] <;> rfl) (by omega) (by omega) (by omega)) rfl rfl ?_
        refine o_rd (r_assign (by simp only [ev, envOf, val_set, ofValue, ofCell, ↓reduceIte, Nat.reduceEqDiff, v0, v1, v4, v5] <;> rfl)) rfl rfl ?_
        refine o_nil ?_
        exact ⟨m - 1, by omega, _, H2, i + 1, rfl, (by simp only [val_set, ↓reduceIte, Nat.reduceEqDiff, v0, v1, v4, v5] <;> rfl), (by simp only [val_set, ↓reduceIte, Nat.reduceEqDiff, v0, v1, v4, v5] <;> rfl), (by simp only [val_set, ↓reduceIte, Nat.reduceEqDiff, v0, v1, v4, v5] <;> rfl), (by simp only [val_set, ↓reduceIte, Nat.reduceEqDiff, v0, v1, v4, v5] <;> rfl), W2, E2, by omega, (by have hee : la[i] = lb[i] := hc4; rw [List.take_succ_eq_append_getElem hi1, List.take_succ_eq_append_getElem hi2, htk, hee])⟩
    · have hc3 := dec_f hc3
      refine w_exit (blk_exit ?_)
      refine w_seq ?_
      refine w_region ?_
      refine o_rd (r_assign (by simp only [ev, envOf, val_set, ofValue, ofCell, ↓reduceIte, Nat.reduceEqDiff, v0, v1, v4, v5] <;> rfl)) rfl rfl ?_
      refine o_nil ?_
      refine w_ret ⟨.inr rfl, rfl, .bool (true), (show resultA Try.prog [.tmp 4] _ = _ by simp only [resultA, resultsA, envOf, val_set, ↓reduceIte, Nat.reduceEqDiff, Option.map_some, v0, v1, v4, v5] <;> rfl), ?_⟩
      try dsimp only
      refine ⟨?_, E2⟩; first | (refine congrArg AV.bool (Eq.symm (decide_eq_false ?_)); intro hq; subst hq; omega) | (refine congrArg AV.bool (Eq.symm (decide_eq_true ?_)); have hil : i = la.length := (by omega); subst hil; rw [List.take_length, List.take_of_length_le (by omega)] at htk; exact htk) | (refine congrArg AV.bool (Eq.symm (decide_eq_false ?_)); intro hq; subst hq; exact hc3 rfl)
end Go.Proofs.Ytenfjdkeikjhlaa.Vs
