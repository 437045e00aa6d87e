/-
  Valid of the reference.
-/
import Derived.Test.YtenfjdkeikjhlaaValid
set_option autoImplicit false
set_option linter.unusedVariables false
set_option linter.unusedSimpArgs false
namespace Go.Proofs.Ytenfjdkeikjhlaa.Vs
open Go.VI Go.Proofs
variable {orc : CallF}
theorem okVs_no : ∀ {l : List V} {x : V}, x ∈ l → okV x = false → okVs l = false
  | y :: l, x, h, k => by
    simp only [okVs]
    rcases List.mem_cons.1 h with rfl | h
    · rw [k]; rfl
    · rw [okVs_no h k, Bool.and_false]
theorem okV_head {k n : Int} {l : List V} (hk : k = 1 ∨ k = 2 ∨ k = 5) : okV (.mk k n l) = vhead k n l.length := by
  simp only [okV]
  cases hv : vhead k n l.length with
  | false => rfl
  | true =>
    have h0 : l.length = 0 := by
      unfold vhead at hv
      rcases hk with rfl | rfl | rfl <;> simp at hv
      · simpa using hv
      · simpa using hv.1
      · simpa using hv.1
    rw [List.eq_nil_of_length_eq_zero h0]; rfl
theorem okV_false {k n : Int} {l : List V} (h : vhead k n l.length = false) : okV (.mk k n l) = false := by simp only [okV, h, Bool.false_and]
set_option maxRecDepth 100000 in
set_option maxHeartbeats 4000000 in
theorem validR_step (ho : NoOrcBut [9, 35, 36] orc) {H0 : AH} (W0 : Wf H0) (ka na : Int) (la : List V) (sa : AV) (h1 : SA H0 la sa) (ih : ∀ x ∈ la, ∀ (H : AH), Wf H → ∀ (a : List AV), VA H x a → Fin Try.prog orc 14 [.agg a] H (fun r H' => r = .bool (okV x) ∧ Ext H H')) : Fin Try.prog orc 14 [.agg [.int .i64 (ka), .int .i64 (na), sa]] H0 (fun r H' => r = .bool (okV (.mk ka na la)) ∧ Ext H0 H') := by
  have E0 := Ext.refl W0
  have bb1 := h1.bound
  refine fin_of Try.func14 rfl (by rw [Try.ntmps14]; simp) (ho _ rfl _ _) ?_
  rw [Try.ntmps14]
  refine w_seq ?_
  refine w_region ?_
  refine o_nw W0 (a_box (by simp only [ev, envOf, val_set, ofValue, ofCell, ↓reduceIte, Nat.reduceEqDiff] <;> rfl)) rfl rfl rfl (by simp) ?_; intro H1 n1 W1 X1 A1
  have A1 : H1.at H0.n = some (.row [.int .i64 (ka), .int .i64 (na), sa] 24 false none) := A1
  have E1 := E0.trans X1
  have g1 : H0.n ≤ H0.n := E0.n
  refine o_rd (r_assign (by simp only [ev, envOf, val_set, ofValue, ofCell, ↓reduceIte, Nat.reduceEqDiff] <;> rfl)) rfl rfl ?_
  refine o_nil ?_
  refine w_seq ?_
  refine w_region ?_
  refine o_rd (r_fieldAddr Ty.fo24_2 (by simp only [ev, envOf, val_set, ofValue, ofCell, ↓reduceIte, Nat.reduceEqDiff] <;> rfl)) rfl rfl ?_
  refine o_rd (r_load1 (v := sa) Ty.agg22 (by simp only [ev, envOf, val_set, ofValue, ofCell, ↓reduceIte, Nat.reduceEqDiff] <;> rfl) (read_mt A1 (Nat.le_of_ble_eq_true rfl))) rfl rfl ?_
  refine o_rd (r_len (n := la.length) Try.underlying22 (by simp only [ev, envOf, val_set, ofValue, ofCell, ↓reduceIte, Nat.reduceEqDiff] <;> rfl) h1.lenOf) rfl rfl ?_
  refine o_rd (r_assign (by simp only [ev, envOf, val_set, ofValue, ofCell, ↓reduceIte, Nat.reduceEqDiff] <;> rfl)) rfl rfl ?_
  refine o_nil ?_
  refine w_seqC (fun s => ∃ (e : Env) (H : AH), s = ⟨e, H, []⟩ ∧ e.val 1 = .ptr (.mt (H0.n)) (0) ∧ e.val 2 = .bool (false) ∧ e.val 3 = .int .i64 (((la.length : Nat) : Int)) ∧ Wf H ∧ Ext H0 H ∧ H.at (H0.n) = some (.row [.int .i64 (ka), .int .i64 (na), sa] 24 false none) ∧ (vhead ka na la.length = true)) ?_ ?_
  · skip
    refine w_seq ?_
    refine w_region ?_
    refine o_rd (r_fieldAddr Ty.fo24_0 (by simp only [ev, envOf, val_set, ofValue, ofCell, ↓reduceIte, Nat.reduceEqDiff] <;> rfl)) rfl rfl ?_
    refine o_rd (r_load1 (v := .int .i64 (ka)) Ty.agg3 (by simp only [ev, envOf, val_set, ofValue, ofCell, ↓reduceIte, Nat.reduceEqDiff] <;> rfl) (read_mt A1 (Nat.le_of_ble_eq_true rfl))) rfl rfl ?_
    refine o_nil ?_
    refine w_block ?_
    refine w_seq ?_
    refine w_region ?_
    refine o_rd (r_eq (a := ka) (b := 1) (by simp only [ev, envOf, val_set, ofValue, ofCell, ↓reduceIte, Nat.reduceEqDiff] <;> rfl) (by simp only [ev, envOf, val_set, ofValue, ofCell, ↓reduceIte, Nat.reduceEqDiff] <;> rfl)) rfl rfl ?_
    refine o_rd (r_assign (by simp only [ev, envOf, val_set, ofValue, ofCell, ↓reduceIte, Nat.reduceEqDiff] <;> rfl)) rfl rfl ?_
    refine o_nil ?_
    refine w_cond (by simp only [ev, envOf, val_set, ofValue, ofCell, ↓reduceIte, Nat.reduceEqDiff] <;> rfl) (fun hc2 => ?_) (fun hc2 => ?_)
    · have hc2 := dec_t hc2
      refine w_seq ?_
      refine w_region ?_
      refine o_rd (r_move (by simp only [ev, envOf, val_set, ofValue, ofCell, ↓reduceIte, Nat.reduceEqDiff] <;> rfl)) rfl rfl ?_
      refine o_rd (r_eq (a := ((la.length : Nat) : Int)) (b := 0) (by simp only [ev, envOf, val_set, ofValue, ofCell, ↓reduceIte, Nat.reduceEqDiff] <;> rfl) (by simp only [ev, envOf, val_set, ofValue, ofCell, ↓reduceIte, Nat.reduceEqDiff] <;> rfl)) rfl rfl ?_
      refine o_rd (r_assign (by simp only [ev, envOf, val_set, ofValue, ofCell, ↓reduceIte, Nat.reduceEqDiff] <;> rfl)) rfl rfl ?_
      refine o_nil ?_
      refine w_ret ⟨.inr rfl, rfl, .bool (decide (((la.length : Nat) : Int) = 0)), (show resultA Try.prog [.tmp 2] _ = _ by simp only [resultA, resultsA, envOf, val_set, ↓reduceIte, Nat.reduceEqDiff, Option.map_some] <;> rfl), ?_⟩
      try dsimp only
      refine ⟨congrArg AV.bool (Eq.symm ?_), E1⟩; first | (refine (okV_head (by omega)).trans ?_; exact Eq.symm (by unfold vhead; (repeat' split) <;> first | (exfalso; omega) | (rw [Bool.eq_iff_iff]; simp only [decide_eq_true_eq, Bool.and_eq_true, Bool.or_eq_true, Bool.false_eq_true, reduceCtorEq, iff_true, iff_false, true_iff, false_iff]; omega) | omega)) | (exact okV_false (by unfold vhead; (repeat' split) <;> first | (exfalso; omega) | rfl | (rw [Bool.eq_false_iff]; simp only [ne_eq, decide_eq_true_eq, Bool.and_eq_true, Bool.or_eq_true]; omega)))
    · have hc2 := dec_f hc2
      refine w_seq ?_
      refine w_region ?_
      refine o_rd (r_eq (a := ka) (b := 2) (by simp only [ev, envOf, val_set, ofValue, ofCell, ↓reduceIte, Nat.reduceEqDiff] <;> rfl) (by simp only [ev, envOf, val_set, ofValue, ofCell, ↓reduceIte, Nat.reduceEqDiff] <;> rfl)) rfl rfl ?_
      refine o_rd (r_assign (by simp only [ev, envOf, val_set, ofValue, ofCell, ↓reduceIte, Nat.reduceEqDiff] <;> rfl)) rfl rfl ?_
      refine o_nil ?_
      refine w_cond (by simp only [ev, envOf, val_set, ofValue, ofCell, ↓reduceIte, Nat.reduceEqDiff] <;> rfl) (fun hc3 => ?_) (fun hc3 => ?_)
      · have hc3 := dec_t hc3
        refine w_seq ?_
        refine w_region ?_
        refine o_rd (r_move (by simp only [ev, envOf, val_set, ofValue, ofCell, ↓reduceIte, Nat.reduceEqDiff] <;> rfl)) rfl rfl ?_
        refine o_rd (r_eq (a := ((la.length : Nat) : Int)) (b := 0) (by simp only [ev, envOf, val_set, ofValue, ofCell, ↓reduceIte, Nat.reduceEqDiff] <;> rfl) (by simp only [ev, envOf, val_set, ofValue, ofCell, ↓reduceIte, Nat.reduceEqDiff] <;> rfl)) rfl rfl ?_
        refine o_rd (r_move (by simp only [ev, envOf, val_set, ofValue, ofCell, ↓reduceIte, Nat.reduceEqDiff] <;> rfl)) rfl rfl ?_
        cases hg4 : (decide (((la.length : Nat) : Int) = 0) : Bool)
        · have hg4 := dec_f hg4
          refine o_sk rfl ((wanted_of (b := false) rfl rfl rfl (by simp only [val_set, ↓reduceIte, Nat.reduceEqDiff] <;> rfl)).trans rfl) ?_
          refine o_sk rfl ((wanted_of (b := false) rfl rfl rfl (by simp only [val_set, ↓reduceIte, Nat.reduceEqDiff] <;> rfl)).trans rfl) ?_
          refine o_sk rfl ((wanted_of (b := false) rfl rfl rfl (by simp only [val_set, ↓reduceIte, Nat.reduceEqDiff] <;> rfl)).trans rfl) ?_
          refine o_sk rfl ((wanted_of (b := false) rfl rfl rfl (by simp only [val_set, ↓reduceIte, Nat.reduceEqDiff] <;> rfl)).trans rfl) ?_
          refine o_sk rfl (wanted_no rfl rfl rfl (by simp only [val_set, ↓reduceIte, Nat.reduceEqDiff] <;> rfl)) ?_
          refine o_sk rfl (wanted_no rfl rfl rfl (by simp only [val_set, ↓reduceIte, Nat.reduceEqDiff] <;> rfl)) ?_
          refine o_sk rfl (wanted_no rfl rfl rfl (by simp only [val_set, ↓reduceIte, Nat.reduceEqDiff] <;> rfl)) ?_
          refine o_sk rfl ((wanted_of (b := false) rfl rfl rfl (by simp only [val_set, ↓reduceIte, Nat.reduceEqDiff] <;> rfl)).trans rfl) ?_
          refine o_rd (r_pick (t := false) (by simp only [ev, envOf, val_set, ofValue, ofCell, ↓reduceIte, Nat.reduceEqDiff] <;> rfl) (fun h => by cases h) (fun _ => (by simp only [ev, envOf, val_set, ofValue, ofCell, ↓reduceIte, Nat.reduceEqDiff] <;> rfl))) rfl rfl ?_
          refine o_rd (r_assign (by simp only [ev, envOf, val_set, ofValue, ofCell, ↓reduceIte, Nat.reduceEqDiff] <;> rfl)) rfl rfl ?_
          refine o_nil ?_
          refine w_ret ⟨.inr rfl, rfl, .bool (false), (show resultA Try.prog [.tmp 2] _ = _ by simp only [resultA, resultsA, envOf, val_set, ↓reduceIte, Nat.reduceEqDiff, Option.map_some] <;> rfl), ?_⟩
          try dsimp only
          refine ⟨congrArg AV.bool (Eq.symm ?_), E1⟩; first | (refine (okV_head (by omega)).trans ?_; exact Eq.symm (by unfold vhead; (repeat' split) <;> first | (exfalso; omega) | (rw [Bool.eq_iff_iff]; simp only [decide_eq_true_eq, Bool.and_eq_true, Bool.or_eq_true, Bool.false_eq_true, reduceCtorEq, iff_true, iff_false, true_iff, false_iff]; omega) | omega)) | (exact okV_false (by unfold vhead; (repeat' split) <;> first | (exfalso; omega) | rfl | (rw [Bool.eq_false_iff]; simp only [ne_eq, decide_eq_true_eq, Bool.and_eq_true, Bool.or_eq_true]; omega)))
        · have hg4 := dec_t hg4
          refine o_rd (r_fieldAddr Ty.fo24_1 (by simp only [ev, envOf, val_set, ofValue, ofCell, ↓reduceIte, Nat.reduceEqDiff] <;> rfl)) rfl ((wanted_of (b := true) rfl rfl rfl (by simp only [val_set, ↓reduceIte, Nat.reduceEqDiff] <;> rfl)).trans rfl) ?_
          refine o_rd (r_load1 (v := .int .i64 (na)) Ty.agg3 (by simp only [ev, envOf, val_set, ofValue, ofCell, ↓reduceIte, Nat.reduceEqDiff] <;> rfl) (read_mt A1 (Nat.le_of_ble_eq_true rfl))) rfl ((wanted_of (b := true) rfl rfl rfl (by simp only [val_set, ↓reduceIte, Nat.reduceEqDiff] <;> rfl)).trans rfl) ?_
          refine o_rd (r_eq (a := na) (b := 0) (by simp only [ev, envOf, val_set, ofValue, ofCell, ↓reduceIte, Nat.reduceEqDiff] <;> rfl) (by simp only [ev, envOf, val_set, ofValue, ofCell, ↓reduceIte, Nat.reduceEqDiff] <;> rfl)) rfl ((wanted_of (b := true) rfl rfl rfl (by simp only [val_set, ↓reduceIte, Nat.reduceEqDiff] <;> rfl)).trans rfl) ?_
          refine o_rd (r_move (by simp only [ev, envOf, val_set, ofValue, ofCell, ↓reduceIte, Nat.reduceEqDiff] <;> rfl)) rfl ((wanted_of (b := true) rfl rfl rfl (by simp only [val_set, ↓reduceIte, Nat.reduceEqDiff] <;> rfl)).trans rfl) ?_
          cases hg5 : (decide (na = 0) : Bool)
          · have hg5 := dec_f hg5
            refine o_rd (r_fieldAddr Ty.fo24_1 (by simp only [ev, envOf, val_set, ofValue, ofCell, ↓reduceIte, Nat.reduceEqDiff] <;> rfl)) rfl ((wanted_of (b := false) rfl rfl rfl (by simp only [val_set, ↓reduceIte, Nat.reduceEqDiff] <;> rfl)).trans rfl) ?_
            refine o_rd (r_load1 (v := .int .i64 (na)) Ty.agg3 (by simp only [ev, envOf, val_set, ofValue, ofCell, ↓reduceIte, Nat.reduceEqDiff] <;> rfl) (read_mt A1 (Nat.le_of_ble_eq_true rfl))) rfl ((wanted_of (b := false) rfl rfl rfl (by simp only [val_set, ↓reduceIte, Nat.reduceEqDiff] <;> rfl)).trans rfl) ?_
            refine o_rd (r_eq (a := na) (b := 1) (by simp only [ev, envOf, val_set, ofValue, ofCell, ↓reduceIte, Nat.reduceEqDiff] <;> rfl) (by simp only [ev, envOf, val_set, ofValue, ofCell, ↓reduceIte, Nat.reduceEqDiff] <;> rfl)) rfl ((wanted_of (b := false) rfl rfl rfl (by simp only [val_set, ↓reduceIte, Nat.reduceEqDiff] <;> rfl)).trans rfl) ?_
            refine o_rd (r_pick (t := false) (by simp only [ev, envOf, val_set, ofValue, ofCell, ↓reduceIte, Nat.reduceEqDiff] <;> rfl) (fun h => by cases h) (fun _ => (by simp only [ev, envOf, val_set, ofValue, ofCell, ↓reduceIte, Nat.reduceEqDiff] <;> rfl))) rfl ((wanted_of (b := true) rfl rfl rfl (by simp only [val_set, ↓reduceIte, Nat.reduceEqDiff] <;> rfl)).trans rfl) ?_
            refine o_rd (r_pick (t := true) (by simp only [ev, envOf, val_set, ofValue, ofCell, ↓reduceIte, Nat.reduceEqDiff] <;> rfl) (fun _ => (by simp only [ev, envOf, val_set, ofValue, ofCell, ↓reduceIte, Nat.reduceEqDiff] <;> rfl)) (fun h => by cases h)) rfl rfl ?_
            refine o_rd (r_assign (by simp only [ev, envOf, val_set, ofValue, ofCell, ↓reduceIte, Nat.reduceEqDiff] <;> rfl)) rfl rfl ?_
            refine o_nil ?_
            refine w_ret ⟨.inr rfl, rfl, .bool (decide (na = 1)), (show resultA Try.prog [.tmp 2] _ = _ by simp only [resultA, resultsA, envOf, val_set, ↓reduceIte, Nat.reduceEqDiff, Option.map_some] <;> rfl), ?_⟩
            try dsimp only
            refine ⟨congrArg AV.bool (Eq.symm ?_), E1⟩; first | (refine (okV_head (by omega)).trans ?_; exact Eq.symm (by unfold vhead; (repeat' split) <;> first | (exfalso; omega) | (rw [Bool.eq_iff_iff]; simp only [decide_eq_true_eq, Bool.and_eq_true, Bool.or_eq_true, Bool.false_eq_true, reduceCtorEq, iff_true, iff_false, true_iff, false_iff]; omega) | omega)) | (exact okV_false (by unfold vhead; (repeat' split) <;> first | (exfalso; omega) | rfl | (rw [Bool.eq_false_iff]; simp only [ne_eq, decide_eq_true_eq, Bool.and_eq_true, Bool.or_eq_true]; omega)))
          · have hg5 := dec_t hg5
            refine o_sk rfl ((wanted_of (b := true) rfl rfl rfl (by simp only [val_set, ↓reduceIte, Nat.reduceEqDiff] <;> rfl)).trans rfl) ?_
            refine o_sk rfl ((wanted_of (b := true) rfl rfl rfl (by simp only [val_set, ↓reduceIte, Nat.reduceEqDiff] <;> rfl)).trans rfl) ?_
            refine o_sk rfl ((wanted_of (b := true) rfl rfl rfl (by simp only [val_set, ↓reduceIte, Nat.reduceEqDiff] <;> rfl)).trans rfl) ?_
            refine o_rd (r_pick (t := true) (by simp only [ev, envOf, val_set, ofValue, ofCell, ↓reduceIte, Nat.reduceEqDiff] <;> rfl) (fun _ => (by simp only [ev, envOf, val_set, ofValue, ofCell, ↓reduceIte, Nat.reduceEqDiff] <;> rfl)) (fun h => by cases h)) rfl ((wanted_of (b := true) rfl rfl rfl (by simp only [val_set, ↓reduceIte, Nat.reduceEqDiff] <;> rfl)).trans rfl) ?_
            refine o_rd (r_pick (t := true) (by simp only [ev, envOf, val_set, ofValue, ofCell, ↓reduceIte, Nat.reduceEqDiff] <;> rfl) (fun _ => (by simp only [ev, envOf, val_set, ofValue, ofCell, ↓reduceIte, Nat.reduceEqDiff] <;> rfl)) (fun h => by cases h)) rfl rfl ?_
            refine o_rd (r_assign (by simp only [ev, envOf, val_set, ofValue, ofCell, ↓reduceIte, Nat.reduceEqDiff] <;> rfl)) rfl rfl ?_
            refine o_nil ?_
            refine w_ret ⟨.inr rfl, rfl, .bool (true), (show resultA Try.prog [.tmp 2] _ = _ by simp only [resultA, resultsA, envOf, val_set, ↓reduceIte, Nat.reduceEqDiff, Option.map_some] <;> rfl), ?_⟩
            try dsimp only
            refine ⟨congrArg AV.bool (Eq.symm ?_), E1⟩; first | (refine (okV_head (by omega)).trans ?_; exact Eq.symm (by unfold vhead; (repeat' split) <;> first | (exfalso; omega) | (rw [Bool.eq_iff_iff]; simp only [decide_eq_true_eq, Bool.and_eq_true, Bool.or_eq_true, Bool.false_eq_true, reduceCtorEq, iff_true, iff_false, true_iff, false_iff]; omega) | omega)) | (exact okV_false (by unfold vhead; (repeat' split) <;> first | (exfalso; omega) | rfl | (rw [Bool.eq_false_iff]; simp only [ne_eq, decide_eq_true_eq, Bool.and_eq_true, Bool.or_eq_true]; omega)))
      · have hc3 := dec_f hc3
        refine w_seq ?_
        refine w_region ?_
        refine o_rd (r_eq (a := ka) (b := 5) (by simp only [ev, envOf, val_set, ofValue, ofCell, ↓reduceIte, Nat.reduceEqDiff] <;> rfl) (by simp only [ev, envOf, val_set, ofValue, ofCell, ↓reduceIte, Nat.reduceEqDiff] <;> rfl)) rfl rfl ?_
        refine o_rd (r_assign (by simp only [ev, envOf, val_set, ofValue, ofCell, ↓reduceIte, Nat.reduceEqDiff] <;> rfl)) rfl rfl ?_
        refine o_nil ?_
        refine w_cond (by simp only [ev, envOf, val_set, ofValue, ofCell, ↓reduceIte, Nat.reduceEqDiff] <;> rfl) (fun hc6 => ?_) (fun hc6 => ?_)
        · have hc6 := dec_t hc6
          refine w_seq ?_
          refine w_region ?_
          refine o_rd (r_move (by simp only [ev, envOf, val_set, ofValue, ofCell, ↓reduceIte, Nat.reduceEqDiff] <;> rfl)) rfl rfl ?_
          refine o_rd (r_eq (a := ((la.length : Nat) : Int)) (b := 0) (by simp only [ev, envOf, val_set, ofValue, ofCell, ↓reduceIte, Nat.reduceEqDiff] <;> rfl) (by simp only [ev, envOf, val_set, ofValue, ofCell, ↓reduceIte, Nat.reduceEqDiff] <;> rfl)) rfl rfl ?_
          refine o_rd (r_move (by simp only [ev, envOf, val_set, ofValue, ofCell, ↓reduceIte, Nat.reduceEqDiff] <;> rfl)) rfl rfl ?_
          cases hg7 : (decide (((la.length : Nat) : Int) = 0) : Bool)
          · have hg7 := dec_f hg7
            refine o_sk rfl ((wanted_of (b := false) rfl rfl rfl (by simp only [val_set, ↓reduceIte, Nat.reduceEqDiff] <;> rfl)).trans rfl) ?_
            refine o_sk rfl ((wanted_of (b := false) rfl rfl rfl (by simp only [val_set, ↓reduceIte, Nat.reduceEqDiff] <;> rfl)).trans rfl) ?_
            refine o_sk rfl ((wanted_of (b := false) rfl rfl rfl (by simp only [val_set, ↓reduceIte, Nat.reduceEqDiff] <;> rfl)).trans rfl) ?_
            refine o_rd (r_pick (t := false) (by simp only [ev, envOf, val_set, ofValue, ofCell, ↓reduceIte, Nat.reduceEqDiff] <;> rfl) (fun h => by cases h) (fun _ => (by simp only [ev, envOf, val_set, ofValue, ofCell, ↓reduceIte, Nat.reduceEqDiff] <;> rfl))) rfl rfl ?_
            refine o_rd (r_assign (by simp only [ev, envOf, val_set, ofValue, ofCell, ↓reduceIte, Nat.reduceEqDiff] <;> rfl)) rfl rfl ?_
            refine o_nil ?_
            refine w_ret ⟨.inr rfl, rfl, .bool (false), (show resultA Try.prog [.tmp 2] _ = _ by simp only [resultA, resultsA, envOf, val_set, ↓reduceIte, Nat.reduceEqDiff, Option.map_some] <;> rfl), ?_⟩
            try dsimp only
            refine ⟨congrArg AV.bool (Eq.symm ?_), E1⟩; first | (refine (okV_head (by omega)).trans ?_; exact Eq.symm (by unfold vhead; (repeat' split) <;> first | (exfalso; omega) | (rw [Bool.eq_iff_iff]; simp only [decide_eq_true_eq, Bool.and_eq_true, Bool.or_eq_true, Bool.false_eq_true, reduceCtorEq, iff_true, iff_false, true_iff, false_iff]; omega) | omega)) | (exact okV_false (by unfold vhead; (repeat' split) <;> first | (exfalso; omega) | rfl | (rw [Bool.eq_false_iff]; simp only [ne_eq, decide_eq_true_eq, Bool.and_eq_true, Bool.or_eq_true]; omega)))
          · have hg7 := dec_t hg7
            refine o_rd (r_fieldAddr Ty.fo24_1 (by simp only [ev, envOf, val_set, ofValue, ofCell, ↓reduceIte, Nat.reduceEqDiff] <;> rfl)) rfl ((wanted_of (b := true) rfl rfl rfl (by simp only [val_set, ↓reduceIte, Nat.reduceEqDiff] <;> rfl)).trans rfl) ?_
            refine o_rd (r_load1 (v := .int .i64 (na)) Ty.agg3 (by simp only [ev, envOf, val_set, ofValue, ofCell, ↓reduceIte, Nat.reduceEqDiff] <;> rfl) (read_mt A1 (Nat.le_of_ble_eq_true rfl))) rfl ((wanted_of (b := true) rfl rfl rfl (by simp only [val_set, ↓reduceIte, Nat.reduceEqDiff] <;> rfl)).trans rfl) ?_
            refine o_rd (r_ge (a := na) (b := 0) (by simp only [ev, envOf, val_set, ofValue, ofCell, ↓reduceIte, Nat.reduceEqDiff] <;> rfl) (by simp only [ev, envOf, val_set, ofValue, ofCell, ↓reduceIte, Nat.reduceEqDiff] <;> rfl)) rfl ((wanted_of (b := true) rfl rfl rfl (by simp only [val_set, ↓reduceIte, Nat.reduceEqDiff] <;> rfl)).trans rfl) ?_
            refine o_rd (r_pick (t := true) (by simp only [ev, envOf, val_set, ofValue, ofCell, ↓reduceIte, Nat.reduceEqDiff] <;> rfl) (fun _ => (by simp only [ev, envOf, val_set, ofValue, ofCell, ↓reduceIte, Nat.reduceEqDiff] <;> rfl)) (fun h => by cases h)) rfl rfl ?_
            refine o_rd (r_assign (by simp only [ev, envOf, val_set, ofValue, ofCell, ↓reduceIte, Nat.reduceEqDiff] <;> rfl)) rfl rfl ?_
            refine o_nil ?_
            refine w_ret ⟨.inr rfl, rfl, .bool (decide (0 ≤ na)), (show resultA Try.prog [.tmp 2] _ = _ by simp only [resultA, resultsA, envOf, val_set, ↓reduceIte, Nat.reduceEqDiff, Option.map_some] <;> rfl), ?_⟩
            try dsimp only
            refine ⟨congrArg AV.bool (Eq.symm ?_), E1⟩; first | (refine (okV_head (by omega)).trans ?_; exact Eq.symm (by unfold vhead; (repeat' split) <;> first | (exfalso; omega) | (rw [Bool.eq_iff_iff]; simp only [decide_eq_true_eq, Bool.and_eq_true, Bool.or_eq_true, Bool.false_eq_true, reduceCtorEq, iff_true, iff_false, true_iff, false_iff]; omega) | omega)) | (exact okV_false (by unfold vhead; (repeat' split) <;> first | (exfalso; omega) | rfl | (rw [Bool.eq_false_iff]; simp only [ne_eq, decide_eq_true_eq, Bool.and_eq_true, Bool.or_eq_true]; omega)))
        · have hc6 := dec_f hc6
          refine w_seq ?_
          refine w_region ?_
          refine o_rd (r_eq (a := ka) (b := 3) (by simp only [ev, envOf, val_set, ofValue, ofCell, ↓reduceIte, Nat.reduceEqDiff] <;> rfl) (by simp only [ev, envOf, val_set, ofValue, ofCell, ↓reduceIte, Nat.reduceEqDiff] <;> rfl)) rfl rfl ?_
          refine o_rd (r_assign (by simp only [ev, envOf, val_set, ofValue, ofCell, ↓reduceIte, Nat.reduceEqDiff] <;> rfl)) rfl rfl ?_
          refine o_nil ?_
          refine w_cond (by simp only [ev, envOf, val_set, ofValue, ofCell, ↓reduceIte, Nat.reduceEqDiff] <;> rfl) (fun hc8 => ?_) (fun hc8 => ?_)
          · have hc8 := dec_t hc8
            refine w_seq ?_
            refine w_region ?_
            refine o_rd (r_fieldAddr Ty.fo24_1 (by simp only [ev, envOf, val_set, ofValue, ofCell, ↓reduceIte, Nat.reduceEqDiff] <;> rfl)) rfl rfl ?_
            refine o_rd (r_load1 (v := .int .i64 (na)) Ty.agg3 (by simp only [ev, envOf, val_set, ofValue, ofCell, ↓reduceIte, Nat.reduceEqDiff] <;> rfl) (read_mt A1 (Nat.le_of_ble_eq_true rfl))) rfl rfl ?_
            refine o_rd (r_ne (a := na) (b := 0) (by simp only [ev, envOf, val_set, ofValue, ofCell, ↓reduceIte, Nat.reduceEqDiff] <;> rfl) (by simp only [ev, envOf, val_set, ofValue, ofCell, ↓reduceIte, Nat.reduceEqDiff] <;> rfl)) rfl rfl ?_
            refine o_nil ?_
            refine w_cond (by simp only [ev, envOf, val_set, ofValue, ofCell, ↓reduceIte, Nat.reduceEqDiff] <;> rfl) (fun hc9 => ?_) (fun hc9 => ?_)
            · have hc9 := dec_t hc9
              refine w_seq ?_
              refine w_region ?_
              refine o_rd (r_assign (by simp only [ev, envOf, val_set, ofValue, ofCell, ↓reduceIte, Nat.reduceEqDiff] <;> rfl)) rfl rfl ?_
              refine o_nil ?_
              refine w_ret ⟨.inr rfl, rfl, .bool (false), (show resultA Try.prog [.tmp 2] _ = _ by simp only [resultA, resultsA, envOf, val_set, ↓reduceIte, Nat.reduceEqDiff, Option.map_some] <;> rfl), ?_⟩
              try dsimp only
              refine ⟨congrArg AV.bool (Eq.symm ?_), E1⟩; first | (refine (okV_head (by omega)).trans ?_; exact Eq.symm (by unfold vhead; (repeat' split) <;> first | (exfalso; omega) | (rw [Bool.eq_iff_iff]; simp only [decide_eq_true_eq, Bool.and_eq_true, Bool.or_eq_true, Bool.false_eq_true, reduceCtorEq, iff_true, iff_false, true_iff, false_iff]; omega) | omega)) | (exact okV_false (by unfold vhead; (repeat' split) <;> first | (exfalso; omega) | rfl | (rw [Bool.eq_false_iff]; simp only [ne_eq, decide_eq_true_eq, Bool.and_eq_true, Bool.or_eq_true]; omega)))
            · have hc9 := dec_fn hc9
              refine w_skip ?_
              exact ⟨_, H1, rfl, (by simp only [val_set, ↓reduceIte, Nat.reduceEqDiff] <;> rfl), (by simp only [val_set, ↓reduceIte, Nat.reduceEqDiff] <;> rfl), (by simp only [val_set, ↓reduceIte, Nat.reduceEqDiff] <;> rfl), W1, E1, A1, (by unfold vhead; (repeat' split) <;> first | (exfalso; omega) | (simp only [decide_eq_true_eq, Bool.and_eq_true, Bool.or_eq_true]; omega))⟩
          · have hc8 := dec_f hc8
            refine w_seq ?_
            refine w_region ?_
            refine o_rd (r_eq (a := ka) (b := 4) (by simp only [ev, envOf, val_set, ofValue, ofCell, ↓reduceIte, Nat.reduceEqDiff] <;> rfl) (by simp only [ev, envOf, val_set, ofValue, ofCell, ↓reduceIte, Nat.reduceEqDiff] <;> rfl)) rfl rfl ?_
            refine o_rd (r_assign (by simp only [ev, envOf, val_set, ofValue, ofCell, ↓reduceIte, Nat.reduceEqDiff] <;> rfl)) rfl rfl ?_
            refine o_nil ?_
            refine w_cond (by simp only [ev, envOf, val_set, ofValue, ofCell, ↓reduceIte, Nat.reduceEqDiff] <;> rfl) (fun hc10 => ?_) (fun hc10 => ?_)
            · have hc10 := dec_t hc10
              refine w_seq ?_
              refine w_region ?_
              refine o_rd (r_fieldAddr Ty.fo24_1 (by simp only [ev, envOf, val_set, ofValue, ofCell, ↓reduceIte, Nat.reduceEqDiff] <;> rfl)) rfl rfl ?_
              refine o_rd (r_load1 (v := .int .i64 (na)) Ty.agg3 (by simp only [ev, envOf, val_set, ofValue, ofCell, ↓reduceIte, Nat.reduceEqDiff] <;> rfl) (read_mt A1 (Nat.le_of_ble_eq_true rfl))) rfl rfl ?_
              refine o_rd (r_ne (a := na) (b := 0) (by simp only [ev, envOf, val_set, ofValue, ofCell, ↓reduceIte, Nat.reduceEqDiff] <;> rfl) (by simp only [ev, envOf, val_set, ofValue, ofCell, ↓reduceIte, Nat.reduceEqDiff] <;> rfl)) rfl rfl ?_
              refine o_rd (r_move (by simp only [ev, envOf, val_set, ofValue, ofCell, ↓reduceIte, Nat.reduceEqDiff] <;> rfl)) rfl rfl ?_
              cases hg11 : (decide (na ≠ 0) : Bool)
              · have hg11 := dec_fn hg11
                refine o_rd (r_move (by simp only [ev, envOf, val_set, ofValue, ofCell, ↓reduceIte, Nat.reduceEqDiff] <;> rfl)) rfl ((wanted_of (b := false) rfl rfl rfl (by simp only [val_set, ↓reduceIte, Nat.reduceEqDiff] <;> rfl)).trans rfl) ?_
                refine o_rd (r_lt (a := ((la.length : Nat) : Int)) (b := 2) (by simp only [ev, envOf, val_set, ofValue, ofCell, ↓reduceIte, Nat.reduceEqDiff] <;> rfl) (by simp only [ev, envOf, val_set, ofValue, ofCell, ↓reduceIte, Nat.reduceEqDiff] <;> rfl)) rfl ((wanted_of (b := false) rfl rfl rfl (by simp only [val_set, ↓reduceIte, Nat.reduceEqDiff] <;> rfl)).trans rfl) ?_
                refine o_rd (r_pick (t := false) (by simp only [ev, envOf, val_set, ofValue, ofCell, ↓reduceIte, Nat.reduceEqDiff] <;> rfl) (fun h => by cases h) (fun _ => (by simp only [ev, envOf, val_set, ofValue, ofCell, ↓reduceIte, Nat.reduceEqDiff] <;> rfl))) rfl rfl ?_
                refine o_nil ?_
                refine w_cond (by simp only [ev, envOf, val_set, ofValue, ofCell, ↓reduceIte, Nat.reduceEqDiff] <;> rfl) (fun hc12 => ?_) (fun hc12 => ?_)
                · have hc12 := dec_t hc12
                  refine w_seq ?_
                  refine w_region ?_
                  refine o_rd (r_assign (by simp only [ev, envOf, val_set, ofValue, ofCell, ↓reduceIte, Nat.reduceEqDiff] <;> rfl)) rfl rfl ?_
                  refine o_nil ?_
                  refine w_ret ⟨.inr rfl, rfl, .bool (false), (show resultA Try.prog [.tmp 2] _ = _ by simp only [resultA, resultsA, envOf, val_set, ↓reduceIte, Nat.reduceEqDiff, Option.map_some] <;> rfl), ?_⟩
                  try dsimp only
                  refine ⟨congrArg AV.bool (Eq.symm ?_), E1⟩; first | (refine (okV_head (by omega)).trans ?_; exact Eq.symm (by unfold vhead; (repeat' split) <;> first | (exfalso; omega) | (rw [Bool.eq_iff_iff]; simp only [decide_eq_true_eq, Bool.and_eq_true, Bool.or_eq_true, Bool.false_eq_true, reduceCtorEq, iff_true, iff_false, true_iff, false_iff]; omega) | omega)) | (exact okV_false (by unfold vhead; (repeat' split) <;> first | (exfalso; omega) | rfl | (rw [Bool.eq_false_iff]; simp only [ne_eq, decide_eq_true_eq, Bool.and_eq_true, Bool.or_eq_true]; omega)))
                · have hc12 := dec_f hc12
                  refine w_skip ?_
                  exact ⟨_, H1, rfl, (by simp only [val_set, ↓reduceIte, Nat.reduceEqDiff] <;> rfl), (by simp only [val_set, ↓reduceIte, Nat.reduceEqDiff] <;> rfl), (by simp only [val_set, ↓reduceIte, Nat.reduceEqDiff] <;> rfl), W1, E1, A1, (by unfold vhead; (repeat' split) <;> first | (exfalso; omega) | (simp only [decide_eq_true_eq, Bool.and_eq_true, Bool.or_eq_true]; omega))⟩
              · have hg11 := dec_t hg11
                refine o_sk rfl ((wanted_of (b := true) rfl rfl rfl (by simp only [val_set, ↓reduceIte, Nat.reduceEqDiff] <;> rfl)).trans rfl) ?_
                refine o_sk rfl ((wanted_of (b := true) rfl rfl rfl (by simp only [val_set, ↓reduceIte, Nat.reduceEqDiff] <;> rfl)).trans rfl) ?_
                refine o_rd (r_pick (t := true) (by simp only [ev, envOf, val_set, ofValue, ofCell, ↓reduceIte, Nat.reduceEqDiff] <;> rfl) (fun _ => (by simp only [ev, envOf, val_set, ofValue, ofCell, ↓reduceIte, Nat.reduceEqDiff] <;> rfl)) (fun h => by cases h)) rfl rfl ?_
                refine o_nil ?_
                refine w_cond (t := true) (by simp only [ev, envOf, val_set, ofValue, ofCell, ↓reduceIte, Nat.reduceEqDiff] <;> rfl) (fun _ => ?_) (fun h => by cases h)
                refine w_seq ?_
                refine w_region ?_
                refine o_rd (r_assign (by simp only [ev, envOf, val_set, ofValue, ofCell, ↓reduceIte, Nat.reduceEqDiff] <;> rfl)) rfl rfl ?_
                refine o_nil ?_
                refine w_ret ⟨.inr rfl, rfl, .bool (false), (show resultA Try.prog [.tmp 2] _ = _ by simp only [resultA, resultsA, envOf, val_set, ↓reduceIte, Nat.reduceEqDiff, Option.map_some] <;> rfl), ?_⟩
                try dsimp only
                refine ⟨congrArg AV.bool (Eq.symm ?_), E1⟩; first | (refine (okV_head (by omega)).trans ?_; exact Eq.symm (by unfold vhead; (repeat' split) <;> first | (exfalso; omega) | (rw [Bool.eq_iff_iff]; simp only [decide_eq_true_eq, Bool.and_eq_true, Bool.or_eq_true, Bool.false_eq_true, reduceCtorEq, iff_true, iff_false, true_iff, false_iff]; omega) | omega)) | (exact okV_false (by unfold vhead; (repeat' split) <;> first | (exfalso; omega) | rfl | (rw [Bool.eq_false_iff]; simp only [ne_eq, decide_eq_true_eq, Bool.and_eq_true, Bool.or_eq_true]; omega)))
            · have hc10 := dec_f hc10
              refine w_seq ?_
              refine w_region ?_
              refine o_rd (r_eq (a := ka) (b := 6) (by simp only [ev, envOf, val_set, ofValue, ofCell, ↓reduceIte, Nat.reduceEqDiff] <;> rfl) (by simp only [ev, envOf, val_set, ofValue, ofCell, ↓reduceIte, Nat.reduceEqDiff] <;> rfl)) rfl rfl ?_
              refine o_rd (r_assign (by simp only [ev, envOf, val_set, ofValue, ofCell, ↓reduceIte, Nat.reduceEqDiff] <;> rfl)) rfl rfl ?_
              refine o_nil ?_
              refine w_cond (by simp only [ev, envOf, val_set, ofValue, ofCell, ↓reduceIte, Nat.reduceEqDiff] <;> rfl) (fun hc13 => ?_) (fun hc13 => ?_)
              · have hc13 := dec_t hc13
                refine w_seq ?_
                refine w_region ?_
                refine o_rd (r_fieldAddr Ty.fo24_1 (by simp only [ev, envOf, val_set, ofValue, ofCell, ↓reduceIte, Nat.reduceEqDiff] <;> rfl)) rfl rfl ?_
                refine o_rd (r_load1 (v := .int .i64 (na)) Ty.agg3 (by simp only [ev, envOf, val_set, ofValue, ofCell, ↓reduceIte, Nat.reduceEqDiff] <;> rfl) (read_mt A1 (Nat.le_of_ble_eq_true rfl))) rfl rfl ?_
                refine o_rd (r_lt (a := na) (b := 0) (by simp only [ev, envOf, val_set, ofValue, ofCell, ↓reduceIte, Nat.reduceEqDiff] <;> rfl) (by simp only [ev, envOf, val_set, ofValue, ofCell, ↓reduceIte, Nat.reduceEqDiff] <;> rfl)) rfl rfl ?_
                refine o_rd (r_move (by simp only [ev, envOf, val_set, ofValue, ofCell, ↓reduceIte, Nat.reduceEqDiff] <;> rfl)) rfl rfl ?_
                cases hg14 : (decide (na < 0) : Bool)
                · have hg14 := dec_f hg14
                  refine o_rd (r_fieldAddr Ty.fo24_1 (by simp only [ev, envOf, val_set, ofValue, ofCell, ↓reduceIte, Nat.reduceEqDiff] <;> rfl)) rfl ((wanted_of (b := false) rfl rfl rfl (by simp only [val_set, ↓reduceIte, Nat.reduceEqDiff] <;> rfl)).trans rfl) ?_
                  refine o_rd (r_load1 (v := .int .i64 (na)) Ty.agg3 (by simp only [ev, envOf, val_set, ofValue, ofCell, ↓reduceIte, Nat.reduceEqDiff] <;> rfl) (read_mt A1 (Nat.le_of_ble_eq_true rfl))) rfl ((wanted_of (b := false) rfl rfl rfl (by simp only [val_set, ↓reduceIte, Nat.reduceEqDiff] <;> rfl)).trans rfl) ?_
                  refine o_rd (r_eq (a := na) (b := 0) (by simp only [ev, envOf, val_set, ofValue, ofCell, ↓reduceIte, Nat.reduceEqDiff] <;> rfl) (by simp only [ev, envOf, val_set, ofValue, ofCell, ↓reduceIte, Nat.reduceEqDiff] <;> rfl)) rfl ((wanted_of (b := false) rfl rfl rfl (by simp only [val_set, ↓reduceIte, Nat.reduceEqDiff] <;> rfl)).trans rfl) ?_
                  refine o_rd (r_move (by simp only [ev, envOf, val_set, ofValue, ofCell, ↓reduceIte, Nat.reduceEqDiff] <;> rfl)) rfl ((wanted_of (b := false) rfl rfl rfl (by simp only [val_set, ↓reduceIte, Nat.reduceEqDiff] <;> rfl)).trans rfl) ?_
                  cases hg15 : (decide (na = 0) : Bool)
                  · have hg15 := dec_f hg15
                    refine o_sk rfl ((wanted_of (b := false) rfl rfl rfl (by simp only [val_set, ↓reduceIte, Nat.reduceEqDiff] <;> rfl)).trans rfl) ?_
                    refine o_sk rfl ((wanted_of (b := false) rfl rfl rfl (by simp only [val_set, ↓reduceIte, Nat.reduceEqDiff] <;> rfl)).trans rfl) ?_
                    refine o_rd (r_pick (t := false) (by simp only [ev, envOf, val_set, ofValue, ofCell, ↓reduceIte, Nat.reduceEqDiff] <;> rfl) (fun h => by cases h) (fun _ => (by simp only [ev, envOf, val_set, ofValue, ofCell, ↓reduceIte, Nat.reduceEqDiff] <;> rfl))) rfl ((wanted_of (b := false) rfl rfl rfl (by simp only [val_set, ↓reduceIte, Nat.reduceEqDiff] <;> rfl)).trans rfl) ?_
                    refine o_rd (r_pick (t := false) (by simp only [ev, envOf, val_set, ofValue, ofCell, ↓reduceIte, Nat.reduceEqDiff] <;> rfl) (fun h => by cases h) (fun _ => (by simp only [ev, envOf, val_set, ofValue, ofCell, ↓reduceIte, Nat.reduceEqDiff] <;> rfl))) rfl rfl ?_
                    refine o_nil ?_
                    refine w_cond (t := false) (by simp only [ev, envOf, val_set, ofValue, ofCell, ↓reduceIte, Nat.reduceEqDiff] <;> rfl) (fun h => by cases h) (fun _ => ?_)
                    refine w_skip ?_
                    exact ⟨_, H1, rfl, (by simp only [val_set, ↓reduceIte, Nat.reduceEqDiff] <;> rfl), (by simp only [val_set, ↓reduceIte, Nat.reduceEqDiff] <;> rfl), (by simp only [val_set, ↓reduceIte, Nat.reduceEqDiff] <;> rfl), W1, E1, A1, (by unfold vhead; (repeat' split) <;> first | (exfalso; omega) | (simp only [decide_eq_true_eq, Bool.and_eq_true, Bool.or_eq_true]; omega))⟩
                  · have hg15 := dec_t hg15
                    refine o_rd (r_move (by simp only [ev, envOf, val_set, ofValue, ofCell, ↓reduceIte, Nat.reduceEqDiff] <;> rfl)) rfl ((wanted_of (b := true) rfl rfl rfl (by simp only [val_set, ↓reduceIte, Nat.reduceEqDiff] <;> rfl)).trans rfl) ?_
                    refine o_rd (r_gt (a := ((la.length : Nat) : Int)) (b := 0) (by simp only [ev, envOf, val_set, ofValue, ofCell, ↓reduceIte, Nat.reduceEqDiff] <;> rfl) (by simp only [ev, envOf, val_set, ofValue, ofCell, ↓reduceIte, Nat.reduceEqDiff] <;> rfl)) rfl ((wanted_of (b := true) rfl rfl rfl (by simp only [val_set, ↓reduceIte, Nat.reduceEqDiff] <;> rfl)).trans rfl) ?_
                    refine o_rd (r_pick (t := true) (by simp only [ev, envOf, val_set, ofValue, ofCell, ↓reduceIte, Nat.reduceEqDiff] <;> rfl) (fun _ => (by simp only [ev, envOf, val_set, ofValue, ofCell, ↓reduceIte, Nat.reduceEqDiff] <;> rfl)) (fun h => by cases h)) rfl ((wanted_of (b := false) rfl rfl rfl (by simp only [val_set, ↓reduceIte, Nat.reduceEqDiff] <;> rfl)).trans rfl) ?_
                    refine o_rd (r_pick (t := false) (by simp only [ev, envOf, val_set, ofValue, ofCell, ↓reduceIte, Nat.reduceEqDiff] <;> rfl) (fun h => by cases h) (fun _ => (by simp only [ev, envOf, val_set, ofValue, ofCell, ↓reduceIte, Nat.reduceEqDiff] <;> rfl))) rfl rfl ?_
                    refine o_nil ?_
                    refine w_cond (by simp only [ev, envOf, val_set, ofValue, ofCell, ↓reduceIte, Nat.reduceEqDiff] <;> rfl) (fun hc16 => ?_) (fun hc16 => ?_)
                    · have hc16 := dec_t hc16
                      refine w_seq ?_
                      refine w_region ?_
                      refine o_rd (r_assign (by simp only [ev, envOf, val_set, ofValue, ofCell, ↓reduceIte, Nat.reduceEqDiff] <;> rfl)) rfl rfl ?_
                      refine o_nil ?_
                      refine w_ret ⟨.inr rfl, rfl, .bool (false), (show resultA Try.prog [.tmp 2] _ = _ by simp only [resultA, resultsA, envOf, val_set, ↓reduceIte, Nat.reduceEqDiff, Option.map_some] <;> rfl), ?_⟩
                      try dsimp only
                      refine ⟨congrArg AV.bool (Eq.symm ?_), E1⟩; first | (refine (okV_head (by omega)).trans ?_; exact Eq.symm (by unfold vhead; (repeat' split) <;> first | (exfalso; omega) | (rw [Bool.eq_iff_iff]; simp only [decide_eq_true_eq, Bool.and_eq_true, Bool.or_eq_true, Bool.false_eq_true, reduceCtorEq, iff_true, iff_false, true_iff, false_iff]; omega) | omega)) | (exact okV_false (by unfold vhead; (repeat' split) <;> first | (exfalso; omega) | rfl | (rw [Bool.eq_false_iff]; simp only [ne_eq, decide_eq_true_eq, Bool.and_eq_true, Bool.or_eq_true]; omega)))
                    · have hc16 := dec_f hc16
                      refine w_skip ?_
                      exact ⟨_, H1, rfl, (by simp only [val_set, ↓reduceIte, Nat.reduceEqDiff] <;> rfl), (by simp only [val_set, ↓reduceIte, Nat.reduceEqDiff] <;> rfl), (by simp only [val_set, ↓reduceIte, Nat.reduceEqDiff] <;> rfl), W1, E1, A1, (by unfold vhead; (repeat' split) <;> first | (exfalso; omega) | (simp only [decide_eq_true_eq, Bool.and_eq_true, Bool.or_eq_true]; omega))⟩
                · have hg14 := dec_t hg14
                  refine o_sk rfl ((wanted_of (b := true) rfl rfl rfl (by simp only [val_set, ↓reduceIte, Nat.reduceEqDiff] <;> rfl)).trans rfl) ?_
                  refine o_sk rfl ((wanted_of (b := true) rfl rfl rfl (by simp only [val_set, ↓reduceIte, Nat.reduceEqDiff] <;> rfl)).trans rfl) ?_
                  refine o_sk rfl ((wanted_of (b := true) rfl rfl rfl (by simp only [val_set, ↓reduceIte, Nat.reduceEqDiff] <;> rfl)).trans rfl) ?_
                  refine o_sk rfl ((wanted_of (b := true) rfl rfl rfl (by simp only [val_set, ↓reduceIte, Nat.reduceEqDiff] <;> rfl)).trans rfl) ?_
                  refine o_sk rfl (wanted_no rfl rfl rfl (by simp only [val_set, ↓reduceIte, Nat.reduceEqDiff] <;> rfl)) ?_
                  refine o_sk rfl (wanted_no rfl rfl rfl (by simp only [val_set, ↓reduceIte, Nat.reduceEqDiff] <;> rfl)) ?_
                  refine o_sk rfl ((wanted_of (b := true) rfl rfl rfl (by simp only [val_set, ↓reduceIte, Nat.reduceEqDiff] <;> rfl)).trans rfl) ?_
                  refine o_rd (r_pick (t := true) (by simp only [ev, envOf, val_set, ofValue, ofCell, ↓reduceIte, Nat.reduceEqDiff] <;> rfl) (fun _ => (by simp only [ev, envOf, val_set, ofValue, ofCell, ↓reduceIte, Nat.reduceEqDiff] <;> rfl)) (fun h => by cases h)) rfl rfl ?_
                  refine o_nil ?_
                  refine w_cond (t := true) (by simp only [ev, envOf, val_set, ofValue, ofCell, ↓reduceIte, Nat.reduceEqDiff] <;> rfl) (fun _ => ?_) (fun h => by cases h)
                  refine w_seq ?_
                  refine w_region ?_
                  refine o_rd (r_assign (by simp only [ev, envOf, val_set, ofValue, ofCell, ↓reduceIte, Nat.reduceEqDiff] <;> rfl)) rfl rfl ?_
                  refine o_nil ?_
                  refine w_ret ⟨.inr rfl, rfl, .bool (false), (show resultA Try.prog [.tmp 2] _ = _ by simp only [resultA, resultsA, envOf, val_set, ↓reduceIte, Nat.reduceEqDiff, Option.map_some] <;> rfl), ?_⟩
                  try dsimp only
                  refine ⟨congrArg AV.bool (Eq.symm ?_), E1⟩; first | (refine (okV_head (by omega)).trans ?_; exact Eq.symm (by unfold vhead; (repeat' split) <;> first | (exfalso; omega) | (rw [Bool.eq_iff_iff]; simp only [decide_eq_true_eq, Bool.and_eq_true, Bool.or_eq_true, Bool.false_eq_true, reduceCtorEq, iff_true, iff_false, true_iff, false_iff]; omega) | omega)) | (exact okV_false (by unfold vhead; (repeat' split) <;> first | (exfalso; omega) | rfl | (rw [Bool.eq_false_iff]; simp only [ne_eq, decide_eq_true_eq, Bool.and_eq_true, Bool.or_eq_true]; omega)))
              · have hc13 := dec_f hc13
                refine w_seq ?_
                refine w_region ?_
                refine o_rd (r_assign (by simp only [ev, envOf, val_set, ofValue, ofCell, ↓reduceIte, Nat.reduceEqDiff] <;> rfl)) rfl rfl ?_
                refine o_nil ?_
                refine w_ret ⟨.inr rfl, rfl, .bool (false), (show resultA Try.prog [.tmp 2] _ = _ by simp only [resultA, resultsA, envOf, val_set, ↓reduceIte, Nat.reduceEqDiff, Option.map_some] <;> rfl), ?_⟩
                try dsimp only
                refine ⟨congrArg AV.bool (Eq.symm ?_), E1⟩; first | (refine (okV_head (by omega)).trans ?_; exact Eq.symm (by unfold vhead; (repeat' split) <;> first | (exfalso; omega) | (rw [Bool.eq_iff_iff]; simp only [decide_eq_true_eq, Bool.and_eq_true, Bool.or_eq_true, Bool.false_eq_true, reduceCtorEq, iff_true, iff_false, true_iff, false_iff]; omega) | omega)) | (exact okV_false (by unfold vhead; (repeat' split) <;> first | (exfalso; omega) | rfl | (rw [Bool.eq_false_iff]; simp only [ne_eq, decide_eq_true_eq, Bool.and_eq_true, Bool.or_eq_true]; omega)))
  · intro s hi
    obtain ⟨e, H17, rfl, v1, v2, v3, W17, E17, A1, hvh⟩ := hi
    have l17_0 := W17.lt A1
    refine w_seq ?_
    refine w_seq ?_
    refine w_region ?_
    refine o_rd (r_assign (by simp only [ev, envOf, val_set, ofValue, ofCell, ↓reduceIte, Nat.reduceEqDiff, v1, v2, v3] <;> rfl)) rfl rfl ?_
    refine o_nil ?_
    refine w_block ?_
    refine w_loop (fun m s => ∃ (e : Env) (H : AH) (i : Nat), s = ⟨e, H, []⟩ ∧ e.val 1 = .ptr (.mt (H0.n)) (0) ∧ e.val 2 = .bool (false) ∧ e.val 3 = .int .i64 (((la.length : Nat) : Int)) ∧ e.val 4 = .int .i64 (((i : Nat) : Int)) ∧ Wf H ∧ Ext H0 H ∧ H.at (H0.n) = some (.row [.int .i64 (ka), .int .i64 (na), sa] 24 false none) ∧ (i + m = la.length) ∧ (okVs (la.take i) = true)) (la.length) ⟨_, H17, 0, rfl, (by simp only [val_set, ↓reduceIte, Nat.reduceEqDiff, v1, v2, v3] <;> rfl), (by simp only [val_set, ↓reduceIte, Nat.reduceEqDiff, v1, v2, v3] <;> rfl), (by simp only [val_set, ↓reduceIte, Nat.reduceEqDiff, v1, v2, v3] <;> rfl), (by simp only [val_set, ↓reduceIte, Nat.reduceEqDiff, v1, v2, v3] <;> rfl), W17, E17, A1, by omega, rfl⟩ ?_
    intro m s hi
    obtain ⟨e, H18, i, rfl, v1, v2, v3, v4, W18, E18, A1, hm, hok⟩ := hi
    have l18_0 := W18.lt A1
    refine w_seq ?_
    refine w_seq ?_
    refine w_region ?_
    refine o_rd (r_move (by simp only [ev, envOf, val_set, ofValue, ofCell, ↓reduceIte, Nat.reduceEqDiff, v1, v2, v3, v4] <;> rfl)) rfl rfl ?_
    refine o_rd (r_move (by simp only [ev, envOf, val_set, ofValue, ofCell, ↓reduceIte, Nat.reduceEqDiff, v1, v2, v3, v4] <;> rfl)) rfl rfl ?_
    refine o_rd (r_lt (a := ((i : Nat) : Int)) (b := ((la.length : Nat) : Int)) (by simp only [ev, envOf, val_set, ofValue, ofCell, ↓reduceIte, Nat.reduceEqDiff, v1, v2, v3, v4] <;> rfl) (by simp only [ev, envOf, val_set, ofValue, ofCell, ↓reduceIte, Nat.reduceEqDiff, v1, v2, v3, v4] <;> rfl)) rfl rfl ?_
    refine o_nil ?_
    refine w_cond (by simp only [ev, envOf, val_set, ofValue, ofCell, ↓reduceIte, Nat.reduceEqDiff, v1, v2, v3, v4] <;> rfl) (fun hc19 => ?_) (fun hc19 => ?_)
    · have hc19 := dec_t hc19
      refine w_skip ?_
      refine w_seq ?_
      refine w_block ?_
      refine w_seq ?_
      refine w_region ?_
      have hi1 : i < la.length := by omega
      obtain ⟨loc1, off1, cap1, ce1, rfl, hr1, hv1⟩ := h1.get hi1
      refine o_rd (r_fieldAddr Ty.fo24_2 (by simp only [ev, envOf, val_set, ofValue, ofCell, ↓reduceIte, Nat.reduceEqDiff, v1, v2, v3, v4] <;> rfl)) rfl rfl ?_
      refine o_rd (r_load1 (v := .sl loc1 (off1) (la.length) cap1) Ty.agg22 (by simp only [ev, envOf, val_set, ofValue, ofCell, ↓reduceIte, Nat.reduceEqDiff, v1, v2, v3, v4] <;> rfl) (read_mt A1 (Nat.le_of_ble_eq_true rfl))) rfl rfl ?_
      refine o_rd (r_move (by simp only [ev, envOf, val_set, ofValue, ofCell, ↓reduceIte, Nat.reduceEqDiff, v1, v2, v3, v4] <;> rfl)) rfl rfl ?_
      refine o_rd (r_indexAddr Try.underlying22 Ty.csz24 (by simp only [ev, envOf, val_set, ofValue, ofCell, ↓reduceIte, Nat.reduceEqDiff, v1, v2, v3, v4] <;> rfl) (by simp only [ev, envOf, val_set, ofValue, ofCell, ↓reduceIte, Nat.reduceEqDiff, v1, v2, v3, v4] <;> rfl) hi1) rfl rfl ?_
      refine o_rd (r_loadN Ty.agg24 Ty.csz24 (by simp only [ev, envOf, val_set, ofValue, ofCell, ↓reduceIte, Nat.reduceEqDiff, v1, v2, v3, v4] <;> rfl) (E18.read hr1)) rfl rfl ?_
      refine o_cl rfl rfl (by simp only [evs, ev, envOf, val_set, ofValue, ofCell, ↓reduceIte, Nat.reduceEqDiff, v1, v2, v3, v4] <;> rfl) rfl (ih _ (List.getElem_mem hi1) _ W18 _ (hv1.ext E18)) rfl rfl ?_; rintro _ H20 ⟨rfl, X20⟩
      have W20 := X20.wf; have E20 := E18.trans X20
      have A1 := X20.keep _ _ A1
      have n20 := X20.n
      refine o_rd (r_not (by simp only [ev, envOf, val_set, ofValue, ofCell, ↓reduceIte, Nat.reduceEqDiff, v1, v2, v3, v4] <;> rfl)) rfl rfl ?_
      refine o_nil ?_
      refine w_cond (by simp only [ev, envOf, val_set, ofValue, ofCell, ↓reduceIte, Nat.reduceEqDiff, v1, v2, v3, v4] <;> rfl) (fun hc21 => ?_) (fun hc21 => ?_)
      · skip
        refine w_seq ?_
        refine w_region ?_
        refine o_rd (r_assign (by simp only [ev, envOf, val_set, ofValue, ofCell, ↓reduceIte, Nat.reduceEqDiff, v1, v2, v3, v4] <;> rfl)) rfl rfl ?_
        refine o_nil ?_
        refine w_ret ⟨.inr rfl, rfl, .bool (false), (show resultA Try.prog [.tmp 2] _ = _ by simp only [resultA, resultsA, envOf, val_set, ↓reduceIte, Nat.reduceEqDiff, Option.map_some, v1, v2, v3, v4] <;> rfl), ?_⟩
        try dsimp only
        refine ⟨congrArg AV.bool (Eq.symm ?_), E20⟩; first | (have hx0 := okVs_no (List.getElem_mem hi1) (show okV la[i] = false by simpa using hc21); simp only [okV, hx0, Bool.and_false]) | (have hil : i = la.length := (by omega); subst hil; rw [List.take_length] at hok; simp only [okV, hvh, hok, Bool.and_self])
      · skip
        refine w_skip ?_
        refine w_region ?_
        refine o_rd (r_move (by simp only [ev, envOf, val_set, ofValue, ofCell, ↓reduceIte, Nat.reduceEqDiff, v1, v2, v3, v4] <;> rfl)) rfl rfl ?_
        refine o_rd (r_addE (a := ((i : Nat) : Int)) (b := 1) (c := ((i + 1 : Nat) : Int)) (by simp only [ev, envOf, val_set, ofValue, ofCell, ↓reduceIte, Nat.reduceEqDiff, v1, v2, v3, v4] <;> rfl) (by simp only [ev, envOf, val_set, ofValue, ofCell, ↓reduceIte, Nat.reduceEqDiff, v1, v2, v3, v4] <;> rfl) (by omega) (by omega) (by omega)) rfl rfl ?_
        refine o_rd (r_assign (by simp only [ev, envOf, val_set, ofValue, ofCell, ↓reduceIte, Nat.reduceEqDiff, v1, v2, v3, v4] <;> rfl)) rfl rfl ?_
        refine o_nil ?_
        exact ⟨m - 1, by omega, _, H20, i + 1, rfl, (by simp only [val_set, ↓reduceIte, Nat.reduceEqDiff, v1, v2, v3, v4] <;> rfl), (by simp only [val_set, ↓reduceIte, Nat.reduceEqDiff, v1, v2, v3, v4] <;> rfl), (by simp only [val_set, ↓reduceIte, Nat.reduceEqDiff, v1, v2, v3, v4] <;> rfl), (by simp only [val_set, ↓reduceIte, Nat.reduceEqDiff, v1, v2, v3, v4] <;> rfl), W20, E20, A1, by omega, by rw [okVs_take hi1, hok]; simpa using hc21⟩
    · have hc19 := dec_f hc19
      refine w_exit (blk_exit ?_)
      refine w_seq ?_
      refine w_region ?_
      refine o_rd (r_assign (by simp only [ev, envOf, val_set, ofValue, ofCell, ↓reduceIte, Nat.reduceEqDiff, v1, v2, v3, v4] <;> rfl)) rfl rfl ?_
      refine o_nil ?_
      refine w_ret ⟨.inr rfl, rfl, .bool (true), (show resultA Try.prog [.tmp 2] _ = _ by simp only [resultA, resultsA, envOf, val_set, ↓reduceIte, Nat.reduceEqDiff, Option.map_some, v1, v2, v3, v4] <;> rfl), ?_⟩
      try dsimp only
      refine ⟨congrArg AV.bool (Eq.symm ?_), E18⟩; first | (have hx0 := okVs_no (List.getElem_mem hi1) (show okV la[i] = false by simpa using hc19); simp only [okV, hx0, Bool.and_false]) | (have hil : i = la.length := (by omega); subst hil; rw [List.take_length] at hok; simp only [okV, hvh, hok, Bool.and_self])
theorem validR_fin (ho : NoOrcBut [9, 35, 36] orc) (x : V) : ∀ (H : AH), Wf H → ∀ (a : List AV), VA H x a → Fin Try.prog orc 14 [.agg a] H (fun r H' => r = .bool (okV x) ∧ Ext H H') := by
  refine V.ind (p := fun x => ∀ (H : AH), Wf H → ∀ (a : List AV), VA H x a → Fin Try.prog orc 14 [.agg a] H (fun r H' => r = .bool (okV x) ∧ Ext H H')) ?_ x
  intro k n l ih H W a ha
  cases ha with | mk _ _ _ s h1 =>
  exact validR_step ho W k n l s h1 ih
end Go.Proofs.Ytenfjdkeikjhlaa.Vs
