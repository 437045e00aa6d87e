/-
  same of squintlaw07: two values are alike just if they are one tree.
-/
import Derived.Test.YtenfjdkeikjhlaaTy
import Derived.Test.YtenfjdkeikjhlaaVjV
import Derived.Test.YtenfjdkeikjhlaaVj
set_option autoImplicit false
set_option linter.unusedVariables false
set_option linter.unusedSimpArgs false
namespace Go.Proofs.Ytenfjdkeikjhlaa.Vs
open Go.VI Go.Proofs
variable {orc : CallF}
set_option maxRecDepth 100000 in
set_option maxHeartbeats 4000000 in
theorem same_step (ho : NoOrcBut [9, 35, 36] orc) {H0 : AH} (W0 : Wf H0) (ka na kb nb : Int) (l1 l2 : List V) (s1 s2 : AV) (h1 : SA H0 l1 s1) (h2 : SA H0 l2 s2) (ih : ∀ x ∈ l1, ∀ (H : AH), Wf H → ∀ (y : V) (a b : List AV), VA H x a → VA H y b → Fin Try.prog orc 21 [.agg a, .agg b] H (fun r H' => r = .bool (eqV x y) ∧ Ext H H')) : Fin Try.prog orc 21 [.agg [.int .i64 (ka), .int .i64 (na), s1], .agg [.int .i64 (kb), .int .i64 (nb), s2]] H0 (fun r H' => r = .bool (eqV (.mk ka na l1) (.mk kb nb l2)) ∧ Ext H0 H') := by
  have E0 := Ext.refl W0
  have bb1 := h1.bound; have bb2 := h2.bound
  refine fin_of Try.func21 rfl (by rw [Try.ntmps21]; simp) (ho _ rfl _ _) ?_
  rw [Try.ntmps21]
  refine w_seq ?_
  refine w_region ?_
  refine o_nw W0 (a_box (by simp only [ev, envOf, val_set, ofValue, ofCell, ↓reduceIte, Nat.reduceEqDiff] <;> rfl)) rfl rfl rfl (by simp) ?_; intro H1 n1 W1 X1 A1
  have A1 : H1.at H0.n = some (.row [.int .i64 (ka), .int .i64 (na), s1] 24 false none) := A1
  have E1 := E0.trans X1
  refine o_nw W1 (a_box (by simp only [ev, envOf, val_set, ofValue, ofCell, ↓reduceIte, Nat.reduceEqDiff] <;> rfl)) rfl rfl rfl (by simp) ?_; intro H2 n2 W2 X2 A2
  have A2 : H2.at H1.n = some (.row [.int .i64 (kb), .int .i64 (nb), s2] 24 false none) := A2
  have E2 := E1.trans X2
  have A1 := X2.keep _ _ A1
  refine o_rd (r_assign (by simp only [ev, envOf, val_set, ofValue, ofCell, ↓reduceIte, Nat.reduceEqDiff] <;> rfl)) rfl rfl ?_
  refine o_nil ?_
  refine w_seq ?_
  refine w_seq ?_
  refine w_region ?_
  refine o_rd (r_fieldAddr Ty.fo24_0 (by simp only [ev, envOf, val_set, ofValue, ofCell, ↓reduceIte, Nat.reduceEqDiff] <;> rfl)) rfl rfl ?_
  refine o_rd (r_load1 (v := .int .i64 (ka)) Ty.agg3 (by simp only [ev, envOf, val_set, ofValue, ofCell, ↓reduceIte, Nat.reduceEqDiff] <;> rfl) (read_mt A1 (Nat.le_of_ble_eq_true rfl))) rfl rfl ?_
  refine o_rd (r_fieldAddr Ty.fo24_0 (by simp only [ev, envOf, val_set, ofValue, ofCell, ↓reduceIte, Nat.reduceEqDiff] <;> rfl)) rfl rfl ?_
  refine o_rd (r_load1 (v := .int .i64 (kb)) Ty.agg3 (by simp only [ev, envOf, val_set, ofValue, ofCell, ↓reduceIte, Nat.reduceEqDiff] <;> rfl) (read_mt A2 (Nat.le_of_ble_eq_true rfl))) rfl rfl ?_
  refine o_rd (r_ne (a := ka) (b := kb) (by simp only [ev, envOf, val_set, ofValue, ofCell, ↓reduceIte, Nat.reduceEqDiff] <;> rfl) (by simp only [ev, envOf, val_set, ofValue, ofCell, ↓reduceIte, Nat.reduceEqDiff] <;> rfl)) rfl rfl ?_
  refine o_rd (r_move (by simp only [ev, envOf, val_set, ofValue, ofCell, ↓reduceIte, Nat.reduceEqDiff] <;> rfl)) rfl rfl ?_
  cases hg3 : (decide (ka ≠ kb) : Bool)
  · have hg3 := dec_fn hg3
    refine o_rd (r_fieldAddr Ty.fo24_1 (by simp only [ev, envOf, val_set, ofValue, ofCell, ↓reduceIte, Nat.reduceEqDiff] <;> rfl)) rfl ((wanted_of (b := false) rfl rfl rfl (by simp only [val_set, ↓reduceIte, Nat.reduceEqDiff] <;> rfl)).trans rfl) ?_
    refine o_rd (r_load1 (v := .int .i64 (na)) Ty.agg3 (by simp only [ev, envOf, val_set, ofValue, ofCell, ↓reduceIte, Nat.reduceEqDiff] <;> rfl) (read_mt A1 (Nat.le_of_ble_eq_true rfl))) rfl ((wanted_of (b := false) rfl rfl rfl (by simp only [val_set, ↓reduceIte, Nat.reduceEqDiff] <;> rfl)).trans rfl) ?_
    refine o_rd (r_fieldAddr Ty.fo24_1 (by simp only [ev, envOf, val_set, ofValue, ofCell, ↓reduceIte, Nat.reduceEqDiff] <;> rfl)) rfl ((wanted_of (b := false) rfl rfl rfl (by simp only [val_set, ↓reduceIte, Nat.reduceEqDiff] <;> rfl)).trans rfl) ?_
    refine o_rd (r_load1 (v := .int .i64 (nb)) Ty.agg3 (by simp only [ev, envOf, val_set, ofValue, ofCell, ↓reduceIte, Nat.reduceEqDiff] <;> rfl) (read_mt A2 (Nat.le_of_ble_eq_true rfl))) rfl ((wanted_of (b := false) rfl rfl rfl (by simp only [val_set, ↓reduceIte, Nat.reduceEqDiff] <;> rfl)).trans rfl) ?_
    refine o_rd (r_ne (a := na) (b := nb) (by simp only [ev, envOf, val_set, ofValue, ofCell, ↓reduceIte, Nat.reduceEqDiff] <;> rfl) (by simp only [ev, envOf, val_set, ofValue, ofCell, ↓reduceIte, Nat.reduceEqDiff] <;> rfl)) rfl ((wanted_of (b := false) rfl rfl rfl (by simp only [val_set, ↓reduceIte, Nat.reduceEqDiff] <;> rfl)).trans rfl) ?_
    refine o_rd (r_pick (t := false) (by simp only [ev, envOf, val_set, ofValue, ofCell, ↓reduceIte, Nat.reduceEqDiff] <;> rfl) (fun h => by cases h) (fun _ => (by simp only [ev, envOf, val_set, ofValue, ofCell, ↓reduceIte, Nat.reduceEqDiff] <;> rfl))) rfl rfl ?_
    refine o_rd (r_move (by simp only [ev, envOf, val_set, ofValue, ofCell, ↓reduceIte, Nat.reduceEqDiff] <;> rfl)) rfl rfl ?_
    cases hg4 : (decide (na ≠ nb) : Bool)
    · have hg4 := dec_fn hg4
      refine o_rd (r_fieldAddr Ty.fo24_2 (by simp only [ev, envOf, val_set, ofValue, ofCell, ↓reduceIte, Nat.reduceEqDiff] <;> rfl)) rfl ((wanted_of (b := false) rfl rfl rfl (by simp only [val_set, ↓reduceIte, Nat.reduceEqDiff] <;> rfl)).trans rfl) ?_
      refine o_rd (r_load1 (v := s1) Ty.agg22 (by simp only [ev, envOf, val_set, ofValue, ofCell, ↓reduceIte, Nat.reduceEqDiff] <;> rfl) (read_mt A1 (Nat.le_of_ble_eq_true rfl))) rfl ((wanted_of (b := false) rfl rfl rfl (by simp only [val_set, ↓reduceIte, Nat.reduceEqDiff] <;> rfl)).trans rfl) ?_
      refine o_rd (r_len (n := l1.length) Try.underlying22 (by simp only [ev, envOf, val_set, ofValue, ofCell, ↓reduceIte, Nat.reduceEqDiff] <;> rfl) h1.lenOf) rfl ((wanted_of (b := false) rfl rfl rfl (by simp only [val_set, ↓reduceIte, Nat.reduceEqDiff] <;> rfl)).trans rfl) ?_
      refine o_rd (r_fieldAddr Ty.fo24_2 (by simp only [ev, envOf, val_set, ofValue, ofCell, ↓reduceIte, Nat.reduceEqDiff] <;> rfl)) rfl ((wanted_of (b := false) rfl rfl rfl (by simp only [val_set, ↓reduceIte, Nat.reduceEqDiff] <;> rfl)).trans rfl) ?_
      refine o_rd (r_load1 (v := s2) Ty.agg22 (by simp only [ev, envOf, val_set, ofValue, ofCell, ↓reduceIte, Nat.reduceEqDiff] <;> rfl) (read_mt A2 (Nat.le_of_ble_eq_true rfl))) rfl ((wanted_of (b := false) rfl rfl rfl (by simp only [val_set, ↓reduceIte, Nat.reduceEqDiff] <;> rfl)).trans rfl) ?_
      refine o_rd (r_len (n := l2.length) Try.underlying22 (by simp only [ev, envOf, val_set, ofValue, ofCell, ↓reduceIte, Nat.reduceEqDiff] <;> rfl) h2.lenOf) rfl ((wanted_of (b := false) rfl rfl rfl (by simp only [val_set, ↓reduceIte, Nat.reduceEqDiff] <;> rfl)).trans rfl) ?_
      refine o_rd (r_ne (a := ((l1.length : Nat) : Int)) (b := ((l2.length : Nat) : Int)) (by simp only [ev, envOf, val_set, ofValue, ofCell, ↓reduceIte, Nat.reduceEqDiff] <;> rfl) (by simp only [ev, envOf, val_set, ofValue, ofCell, ↓reduceIte, Nat.reduceEqDiff] <;> rfl)) rfl ((wanted_of (b := false) rfl rfl rfl (by simp only [val_set, ↓reduceIte, Nat.reduceEqDiff] <;> rfl)).trans rfl) ?_
      refine o_rd (r_pick (t := false) (by simp only [ev, envOf, val_set, ofValue, ofCell, ↓reduceIte, Nat.reduceEqDiff] <;> rfl) (fun h => by cases h) (fun _ => (by simp only [ev, envOf, val_set, ofValue, ofCell, ↓reduceIte, Nat.reduceEqDiff] <;> rfl))) rfl rfl ?_
      refine o_nil ?_
      refine w_cond (by simp only [ev, envOf, val_set, ofValue, ofCell, ↓reduceIte, Nat.reduceEqDiff] <;> rfl) (fun hc5 => ?_) (fun hc5 => ?_)
      · have hc5 := dec_t hc5
        refine w_seq ?_
        refine w_region ?_
        refine o_rd (r_assign (by simp only [ev, envOf, val_set, ofValue, ofCell, ↓reduceIte, Nat.reduceEqDiff] <;> rfl)) rfl rfl ?_
        refine o_nil ?_
        refine w_ret ⟨.inr rfl, rfl, .bool (false), (show resultA Try.prog [.tmp 4] _ = _ by simp only [resultA, resultsA, envOf, val_set, ↓reduceIte, Nat.reduceEqDiff, Option.map_some] <;> rfl), ?_⟩
        refine ⟨?_, E2⟩; first | (refine congrArg AV.bool (Eq.symm (eqV_head ?_)); omega) | (refine congrArg AV.bool (Eq.symm (eqV_t.2 ?_)); have hil : i = l1.length := (by omega); subst hil; rw [List.take_length, List.take_of_length_le (by omega)] at htk; have e1 : ka = kb := (by omega); have e2 : na = nb := (by omega); rw [e1, e2, htk]) | (refine congrArg AV.bool (Eq.symm (eqV_f.2 ?_)); intro hq; injection hq with _ _ hq; have hne := eqV_f.1 (show eqV l1[i] l2[i] = false by simpa using hc5); subst hq; exact hne rfl)
      · have hc5 := dec_fn hc5
        refine w_skip ?_
        refine w_seq ?_
        refine w_seq ?_
        refine w_region ?_
        refine o_rd (r_assign (by simp only [ev, envOf, val_set, ofValue, ofCell, ↓reduceIte, Nat.reduceEqDiff] <;> rfl)) rfl rfl ?_
        refine o_nil ?_
        refine w_block ?_
        refine w_loop (fun m s => ∃ (e : Env) (H : AH) (i : Nat), s = ⟨e, H, []⟩ ∧ e.val 2 = .ptr (.mt H0.n) 0 ∧ e.val 3 = .ptr (.mt H1.n) 0 ∧ e.val 4 = .bool (false) ∧ e.val 5 = .int .i64 (((i : Nat) : Int)) ∧ Wf H ∧ Ext H0 H ∧ H.at (H0.n) = some (.row [.int .i64 (ka), .int .i64 (na), s1] 24 false none) ∧ H.at (H1.n) = some (.row [.int .i64 (kb), .int .i64 (nb), s2] 24 false none) ∧ (i + m = l1.length) ∧ (l1.take i = l2.take i)) (l1.length) ⟨_, H2, 0, rfl, (by simp only [val_set, ↓reduceIte, Nat.reduceEqDiff] <;> rfl), (by simp only [val_set, ↓reduceIte, Nat.reduceEqDiff] <;> rfl), (by simp only [val_set, ↓reduceIte, Nat.reduceEqDiff] <;> rfl), (by simp only [val_set, ↓reduceIte, Nat.reduceEqDiff] <;> rfl), W2, E2, A1, A2, by omega, rfl⟩ ?_
        intro m s hi
        obtain ⟨e, H6, i, rfl, v2, v3, v4, v5, W6, E6, A1, A2, hm, htk⟩ := hi
        have l6_0 := W6.lt A1
        have l6_1 := W6.lt A2
        refine w_seq ?_
        refine w_seq ?_
        refine w_region ?_
        refine o_rd (r_move (by simp only [ev, envOf, val_set, ofValue, ofCell, ↓reduceIte, Nat.reduceEqDiff, v2, v3, v4, v5] <;> rfl)) rfl rfl ?_
        refine o_rd (r_fieldAddr Ty.fo24_2 (by simp only [ev, envOf, val_set, ofValue, ofCell, ↓reduceIte, Nat.reduceEqDiff, v2, v3, v4, v5] <;> rfl)) rfl rfl ?_
        refine o_rd (r_load1 (v := s1) Ty.agg22 (by simp only [ev, envOf, val_set, ofValue, ofCell, ↓reduceIte, Nat.reduceEqDiff, v2, v3, v4, v5] <;> rfl) (read_mt A1 (Nat.le_of_ble_eq_true rfl))) rfl rfl ?_
        refine o_rd (r_len (n := l1.length) Try.underlying22 (by simp only [ev, envOf, val_set, ofValue, ofCell, ↓reduceIte, Nat.reduceEqDiff, v2, v3, v4, v5] <;> rfl) h1.lenOf) rfl rfl ?_
        refine o_rd (r_lt (a := ((i : Nat) : Int)) (b := ((l1.length : Nat) : Int)) (by simp only [ev, envOf, val_set, ofValue, ofCell, ↓reduceIte, Nat.reduceEqDiff, v2, v3, v4, v5] <;> rfl) (by simp only [ev, envOf, val_set, ofValue, ofCell, ↓reduceIte, Nat.reduceEqDiff, v2, v3, v4, v5] <;> rfl)) rfl rfl ?_
        refine o_nil ?_
        refine w_cond (by simp only [ev, envOf, val_set, ofValue, ofCell, ↓reduceIte, Nat.reduceEqDiff, v2, v3, v4, v5] <;> rfl) (fun hc7 => ?_) (fun hc7 => ?_)
        · have hc7 := dec_t hc7
          refine w_skip ?_
          refine w_seq ?_
          refine w_block ?_
          refine w_seq ?_
          refine w_draw (ms := [0, 1, 0, 7, 15, 0, 32, 0, 224, 480, 1023, 2047]) (ord := [0, 1, 2, 3, 4, 5, 6, 7, 8, 9, 10, 11]) (by kernel_rfl) (by kernel_rfl) (by kernel_rfl) ?_
          have hi1 : i < l1.length := by omega
          have hi2 : i < l2.length := by omega
          obtain ⟨loc1, off1, cap1, ce1, rfl, hr1, hv1⟩ := h1.get hi1
          obtain ⟨loc2, off2, cap2, ce2, rfl, hr2, hv2⟩ := h2.get hi2
          refine d_rd rfl (r_fieldAddr Ty.fo24_2 (by simp only [ev, envOf, val_set, ofValue, ofCell, ↓reduceIte, Nat.reduceEqDiff, v2, v3, v4, v5] <;> rfl)) rfl rfl ?_
          refine d_rd rfl (r_load1 (v := .sl loc1 (off1) (l1.length) cap1) Ty.agg22 (by simp only [ev, envOf, val_set, ofValue, ofCell, ↓reduceIte, Nat.reduceEqDiff, v2, v3, v4, v5] <;> rfl) (read_mt A1 (Nat.le_of_ble_eq_true rfl))) rfl rfl ?_
          refine d_rd rfl (r_move (by simp only [ev, envOf, val_set, ofValue, ofCell, ↓reduceIte, Nat.reduceEqDiff, v2, v3, v4, v5] <;> rfl)) rfl rfl ?_
          refine d_rd rfl (r_indexAddr Try.underlying22 Ty.csz24 (by simp only [ev, envOf, val_set, ofValue, ofCell, ↓reduceIte, Nat.reduceEqDiff, v2, v3, v4, v5] <;> rfl) (by simp only [ev, envOf, val_set, ofValue, ofCell, ↓reduceIte, Nat.reduceEqDiff, v2, v3, v4, v5] <;> rfl) hi1) rfl rfl ?_
          refine d_rd rfl (r_loadN Ty.agg24 Ty.csz24 (by simp only [ev, envOf, val_set, ofValue, ofCell, ↓reduceIte, Nat.reduceEqDiff, v2, v3, v4, v5] <;> rfl) (E6.read hr1)) rfl rfl ?_
          refine d_rd rfl (r_fieldAddr Ty.fo24_2 (by simp only [ev, envOf, val_set, ofValue, ofCell, ↓reduceIte, Nat.reduceEqDiff, v2, v3, v4, v5] <;> rfl)) rfl rfl ?_
          refine d_rd rfl (r_load1 (v := .sl loc2 (off2) (l2.length) cap2) Ty.agg22 (by simp only [ev, envOf, val_set, ofValue, ofCell, ↓reduceIte, Nat.reduceEqDiff, v2, v3, v4, v5] <;> rfl) (read_mt A2 (Nat.le_of_ble_eq_true rfl))) rfl rfl ?_
          refine d_rd rfl (r_move (by simp only [ev, envOf, val_set, ofValue, ofCell, ↓reduceIte, Nat.reduceEqDiff, v2, v3, v4, v5] <;> rfl)) rfl rfl ?_
          refine d_rd rfl (r_indexAddr Try.underlying22 Ty.csz24 (by simp only [ev, envOf, val_set, ofValue, ofCell, ↓reduceIte, Nat.reduceEqDiff, v2, v3, v4, v5] <;> rfl) (by simp only [ev, envOf, val_set, ofValue, ofCell, ↓reduceIte, Nat.reduceEqDiff, v2, v3, v4, v5] <;> rfl) hi2) rfl rfl ?_
          refine d_rd rfl (r_loadN Ty.agg24 Ty.csz24 (by simp only [ev, envOf, val_set, ofValue, ofCell, ↓reduceIte, Nat.reduceEqDiff, v2, v3, v4, v5] <;> rfl) (E6.read hr2)) rfl rfl ?_
          refine d_cl rfl rfl rfl (by simp only [evs, ev, envOf, val_set, ofValue, ofCell, ↓reduceIte, Nat.reduceEqDiff, v2, v3, v4, v5] <;> rfl) rfl (ih _ (List.getElem_mem hi1) _ W6 _ _ _ (hv1.ext E6) (hv2.ext E6)) rfl rfl ?_; rintro _ H8 ⟨rfl, X8⟩
          have W8 := X8.wf; have E8 := E6.trans X8
          have A1 := X8.keep _ _ A1
          have A2 := X8.keep _ _ A2
          have n8 := X8.n
          refine ⟨re_forcedL (M := 1023) (I := 9) rfl rfl (by decide) (re_forcedL (M := 1023) (I := 8) rfl rfl (by decide) (re_forcedL (M := 1023) (I := 7) rfl rfl (by decide) (re_forcedL (M := 1023) (I := 6) rfl rfl (by decide) (re_forcedL (M := 1023) (I := 5) rfl rfl (by decide) (re_forcedL (M := 1023) (I := 4) rfl rfl (by decide) (re_forcedL (M := 1023) (I := 3) rfl rfl (by decide) (re_forcedL (M := 1023) (I := 2) rfl rfl (by decide) (re_forcedL (M := 1023) (I := 1) rfl rfl (by decide) (re_forcedL (M := 1023) (I := 0) rfl rfl (by decide) (re_nil)))))))))), ?_⟩
          refine d_rd rfl (r_assign (by simp only [ev, envOf, val_set, ofValue, ofCell, ↓reduceIte, Nat.reduceEqDiff, v2, v3, v4, v5] <;> rfl)) rfl rfl ?_
          refine d_nil ?_
          refine w_seq ?_
          refine w_region ?_
          refine o_rd (r_move (by simp only [ev, envOf, val_set, ofValue, ofCell, ↓reduceIte, Nat.reduceEqDiff, v2, v3, v4, v5] <;> rfl)) rfl rfl ?_
          refine o_rd (r_not (by simp only [ev, envOf, val_set, ofValue, ofCell, ↓reduceIte, Nat.reduceEqDiff, v2, v3, v4, v5] <;> rfl)) rfl rfl ?_
          refine o_nil ?_
          refine w_cond (by simp only [ev, envOf, val_set, ofValue, ofCell, ↓reduceIte, Nat.reduceEqDiff, v2, v3, v4, v5] <;> rfl) (fun hc9 => ?_) (fun hc9 => ?_)
          · skip
            refine w_seq ?_
            refine w_region ?_
            refine o_rd (r_assign (by simp only [ev, envOf, val_set, ofValue, ofCell, ↓reduceIte, Nat.reduceEqDiff, v2, v3, v4, v5] <;> rfl)) rfl rfl ?_
            refine o_nil ?_
            refine w_ret ⟨.inr rfl, rfl, .bool (false), (show resultA Try.prog [.tmp 4] _ = _ by simp only [resultA, resultsA, envOf, val_set, ↓reduceIte, Nat.reduceEqDiff, Option.map_some, v2, v3, v4, v5] <;> rfl), ?_⟩
            refine ⟨?_, E8⟩; first | (refine congrArg AV.bool (Eq.symm (eqV_head ?_)); omega) | (refine congrArg AV.bool (Eq.symm (eqV_t.2 ?_)); have hil : i = l1.length := (by omega); subst hil; rw [List.take_length, List.take_of_length_le (by omega)] at htk; have e1 : ka = kb := (by omega); have e2 : na = nb := (by omega); rw [e1, e2, htk]) | (refine congrArg AV.bool (Eq.symm (eqV_f.2 ?_)); intro hq; injection hq with _ _ hq; have hne := eqV_f.1 (show eqV l1[i] l2[i] = false by simpa using hc9); subst hq; exact hne rfl)
          · skip
            refine w_skip ?_
            refine w_region ?_
            refine o_rd (r_move (by simp only [ev, envOf, val_set, ofValue, ofCell, ↓reduceIte, Nat.reduceEqDiff, v2, v3, v4, v5] <;> rfl)) rfl rfl ?_
            refine o_rd (r_addE (a := ((i : Nat) : Int)) (b := 1) (c := ((i + 1 : Nat) : Int)) (by simp only [ev, envOf, val_set, ofValue, ofCell, ↓reduceIte, Nat.reduceEqDiff, v2, v3, v4, v5] <;> rfl) (by simp only [ev, envOf, val_set, ofValue, ofCell, ↓reduceIte, Nat.reduceEqDiff, v2, v3, v4, v5] <;> rfl) (by omega) (by omega) (by omega)) rfl rfl ?_
            refine o_rd (r_assign (by simp only [ev, envOf, val_set, ofValue, ofCell, ↓reduceIte, Nat.reduceEqDiff, v2, v3, v4, v5] <;> rfl)) rfl rfl ?_
            refine o_nil ?_
            have hee : l1[i] = l2[i] := eqV_t.1 (by simpa using hc9)
            exact ⟨m - 1, by omega, _, H8, i + 1, rfl, (by simp only [val_set, ↓reduceIte, Nat.reduceEqDiff, v2, v3, v4, v5] <;> rfl), (by simp only [val_set, ↓reduceIte, Nat.reduceEqDiff, v2, v3, v4, v5] <;> rfl), (by simp only [val_set, ↓reduceIte, Nat.reduceEqDiff, v2, v3, v4, v5] <;> rfl), (by simp only [val_set, ↓reduceIte, Nat.reduceEqDiff, v2, v3, v4, v5] <;> rfl), W8, E8, A1, A2, by omega, by rw [List.take_succ_eq_append_getElem hi1, List.take_succ_eq_append_getElem hi2, htk, hee]⟩
        · have hc7 := dec_f hc7
          refine w_exit (blk_exit ?_)
          refine w_seq ?_
          refine w_region ?_
          refine o_rd (r_assign (by simp only [ev, envOf, val_set, ofValue, ofCell, ↓reduceIte, Nat.reduceEqDiff, v2, v3, v4, v5] <;> rfl)) rfl rfl ?_
          refine o_nil ?_
          refine w_ret ⟨.inr rfl, rfl, .bool (true), (show resultA Try.prog [.tmp 4] _ = _ by simp only [resultA, resultsA, envOf, val_set, ↓reduceIte, Nat.reduceEqDiff, Option.map_some, v2, v3, v4, v5] <;> rfl), ?_⟩
          refine ⟨?_, E6⟩; first | (refine congrArg AV.bool (Eq.symm (eqV_head ?_)); omega) | (refine congrArg AV.bool (Eq.symm (eqV_t.2 ?_)); have hil : i = l1.length := (by omega); subst hil; rw [List.take_length, List.take_of_length_le (by omega)] at htk; have e1 : ka = kb := (by omega); have e2 : na = nb := (by omega); rw [e1, e2, htk]) | (refine congrArg AV.bool (Eq.symm (eqV_f.2 ?_)); intro hq; injection hq with _ _ hq; have hne := eqV_f.1 (show eqV l1[i] l2[i] = false by simpa using hc7); subst hq; exact hne rfl)
    · have hg4 := dec_t hg4
      refine o_sk rfl ((wanted_of (b := true) rfl rfl rfl (by simp only [val_set, ↓reduceIte, Nat.reduceEqDiff] <;> rfl)).trans rfl) ?_
      refine o_sk rfl ((wanted_of (b := true) rfl rfl rfl (by simp only [val_set, ↓reduceIte, Nat.reduceEqDiff] <;> rfl)).trans rfl) ?_
      refine o_sk rfl ((wanted_of (b := true) rfl rfl rfl (by simp only [val_set, ↓reduceIte, Nat.reduceEqDiff] <;> rfl)).trans rfl) ?_
      refine o_sk rfl ((wanted_of (b := true) rfl rfl rfl (by simp only [val_set, ↓reduceIte, Nat.reduceEqDiff] <;> rfl)).trans rfl) ?_
      refine o_sk rfl ((wanted_of (b := true) rfl rfl rfl (by simp only [val_set, ↓reduceIte, Nat.reduceEqDiff] <;> rfl)).trans rfl) ?_
      refine o_sk rfl ((wanted_of (b := true) rfl rfl rfl (by simp only [val_set, ↓reduceIte, Nat.reduceEqDiff] <;> rfl)).trans rfl) ?_
      refine o_sk rfl ((wanted_of (b := true) rfl rfl rfl (by simp only [val_set, ↓reduceIte, Nat.reduceEqDiff] <;> rfl)).trans rfl) ?_
      refine o_rd (r_pick (t := true) (by simp only [ev, envOf, val_set, ofValue, ofCell, ↓reduceIte, Nat.reduceEqDiff] <;> rfl) (fun _ => (by simp only [ev, envOf, val_set, ofValue, ofCell, ↓reduceIte, Nat.reduceEqDiff] <;> rfl)) (fun h => by cases h)) rfl rfl ?_
      refine o_nil ?_
      refine w_cond (t := true) (by simp only [ev, envOf, val_set, ofValue, ofCell, ↓reduceIte, Nat.reduceEqDiff] <;> rfl) (fun _ => ?_) (fun h => by cases h)
      refine w_seq ?_
      refine w_region ?_
      refine o_rd (r_assign (by simp only [ev, envOf, val_set, ofValue, ofCell, ↓reduceIte, Nat.reduceEqDiff] <;> rfl)) rfl rfl ?_
      refine o_nil ?_
      refine w_ret ⟨.inr rfl, rfl, .bool (false), (show resultA Try.prog [.tmp 4] _ = _ by simp only [resultA, resultsA, envOf, val_set, ↓reduceIte, Nat.reduceEqDiff, Option.map_some] <;> rfl), ?_⟩
      refine ⟨?_, E2⟩; first | (refine congrArg AV.bool (Eq.symm (eqV_head ?_)); omega) | (refine congrArg AV.bool (Eq.symm (eqV_t.2 ?_)); have hil : i = l1.length := (by omega); subst hil; rw [List.take_length, List.take_of_length_le (by omega)] at htk; have e1 : ka = kb := (by omega); have e2 : na = nb := (by omega); rw [e1, e2, htk]) | (refine congrArg AV.bool (Eq.symm (eqV_f.2 ?_)); intro hq; injection hq with _ _ hq; have hne := eqV_f.1 (show eqV l1[i] l2[i] = false by simpa using hg4); subst hq; exact hne rfl)
  · have hg3 := dec_t hg3
    refine o_sk rfl ((wanted_of (b := true) rfl rfl rfl (by simp only [val_set, ↓reduceIte, Nat.reduceEqDiff] <;> rfl)).trans rfl) ?_
    refine o_sk rfl ((wanted_of (b := true) rfl rfl rfl (by simp only [val_set, ↓reduceIte, Nat.reduceEqDiff] <;> rfl)).trans rfl) ?_
    refine o_sk rfl ((wanted_of (b := true) rfl rfl rfl (by simp only [val_set, ↓reduceIte, Nat.reduceEqDiff] <;> rfl)).trans rfl) ?_
    refine o_sk rfl ((wanted_of (b := true) rfl rfl rfl (by simp only [val_set, ↓reduceIte, Nat.reduceEqDiff] <;> rfl)).trans rfl) ?_
    refine o_sk rfl ((wanted_of (b := true) rfl rfl rfl (by simp only [val_set, ↓reduceIte, Nat.reduceEqDiff] <;> rfl)).trans rfl) ?_
    refine o_rd (r_pick (t := true) (by simp only [ev, envOf, val_set, ofValue, ofCell, ↓reduceIte, Nat.reduceEqDiff] <;> rfl) (fun _ => (by simp only [ev, envOf, val_set, ofValue, ofCell, ↓reduceIte, Nat.reduceEqDiff] <;> rfl)) (fun h => by cases h)) rfl rfl ?_
    refine o_rd (r_move (by simp only [ev, envOf, val_set, ofValue, ofCell, ↓reduceIte, Nat.reduceEqDiff] <;> rfl)) rfl rfl ?_
    refine o_sk rfl ((wanted_of (b := true) rfl rfl rfl (by simp only [val_set, ↓reduceIte, Nat.reduceEqDiff] <;> rfl)).trans rfl) ?_
    refine o_sk rfl ((wanted_of (b := true) rfl rfl rfl (by simp only [val_set, ↓reduceIte, Nat.reduceEqDiff] <;> rfl)).trans rfl) ?_
    refine o_sk rfl ((wanted_of (b := true) rfl rfl rfl (by simp only [val_set, ↓reduceIte, Nat.reduceEqDiff] <;> rfl)).trans rfl) ?_
    refine o_sk rfl ((wanted_of (b := true) rfl rfl rfl (by simp only [val_set, ↓reduceIte, Nat.reduceEqDiff] <;> rfl)).trans rfl) ?_
    refine o_sk rfl ((wanted_of (b := true) rfl rfl rfl (by simp only [val_set, ↓reduceIte, Nat.reduceEqDiff] <;> rfl)).trans rfl) ?_
    refine o_sk rfl ((wanted_of (b := true) rfl rfl rfl (by simp only [val_set, ↓reduceIte, Nat.reduceEqDiff] <;> rfl)).trans rfl) ?_
    refine o_sk rfl ((wanted_of (b := true) rfl rfl rfl (by simp only [val_set, ↓reduceIte, Nat.reduceEqDiff] <;> rfl)).trans rfl) ?_
    refine o_rd (r_pick (t := true) (by simp only [ev, envOf, val_set, ofValue, ofCell, ↓reduceIte, Nat.reduceEqDiff] <;> rfl) (fun _ => (by simp only [ev, envOf, val_set, ofValue, ofCell, ↓reduceIte, Nat.reduceEqDiff] <;> rfl)) (fun h => by cases h)) rfl rfl ?_
    refine o_nil ?_
    refine w_cond (t := true) (by simp only [ev, envOf, val_set, ofValue, ofCell, ↓reduceIte, Nat.reduceEqDiff] <;> rfl) (fun _ => ?_) (fun h => by cases h)
    refine w_seq ?_
    refine w_region ?_
    refine o_rd (r_assign (by simp only [ev, envOf, val_set, ofValue, ofCell, ↓reduceIte, Nat.reduceEqDiff] <;> rfl)) rfl rfl ?_
    refine o_nil ?_
    refine w_ret ⟨.inr rfl, rfl, .bool (false), (show resultA Try.prog [.tmp 4] _ = _ by simp only [resultA, resultsA, envOf, val_set, ↓reduceIte, Nat.reduceEqDiff, Option.map_some] <;> rfl), ?_⟩
    refine ⟨?_, E2⟩; first | (refine congrArg AV.bool (Eq.symm (eqV_head ?_)); omega) | (refine congrArg AV.bool (Eq.symm (eqV_t.2 ?_)); have hil : i = l1.length := (by omega); subst hil; rw [List.take_length, List.take_of_length_le (by omega)] at htk; have e1 : ka = kb := (by omega); have e2 : na = nb := (by omega); rw [e1, e2, htk]) | (refine congrArg AV.bool (Eq.symm (eqV_f.2 ?_)); intro hq; injection hq with _ _ hq; have hne := eqV_f.1 (show eqV l1[i] l2[i] = false by simpa using hg3); subst hq; exact hne rfl)
theorem same_fin (ho : NoOrcBut [9, 35, 36] orc) (x : V) : ∀ (H : AH), Wf H → ∀ (y : V) (a b : List AV), VA H x a → VA H y b → Fin Try.prog orc 21 [.agg a, .agg b] H (fun r H' => r = .bool (eqV x y) ∧ Ext H H') := by
  refine V.ind (p := fun x => ∀ (H : AH), Wf H → ∀ (y : V) (a b : List AV), VA H x a → VA H y b → Fin Try.prog orc 21 [.agg a, .agg b] H (fun r H' => r = .bool (eqV x y) ∧ Ext H H')) ?_ x
  intro k n l ih H W y a b ha hb
  cases ha with | mk _ _ _ s h1 =>
  cases hb with | mk kb nb l2 s2 h2 =>
  exact same_step ho W k n kb nb l l2 s s2 h1 h2 ih
end Go.Proofs.Ytenfjdkeikjhlaa.Vs
