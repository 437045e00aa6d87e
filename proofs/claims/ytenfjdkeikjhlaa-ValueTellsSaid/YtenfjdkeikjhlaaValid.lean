/-
  value.Valid: which values may be.
-/
import Derived.Test.YtenfjdkeikjhlaaTy
import Derived.Test.YtenfjdkeikjhlaaVjV
import Derived.Test.YtenfjdkeikjhlaaVj
set_option autoImplicit false
set_option linter.unusedVariables false
set_option linter.unusedSimpArgs false
namespace Go.Proofs.Ytenfjdkeikjhlaa.Vs
open Go.VI Go.Proofs
variable {orc : CallF}
def vhead (k n : Int) (c : Nat) : Bool :=
  if k = 1 then decide (c = 0) else if k = 2 then decide (c = 0) && (decide (n = 0) || decide (n = 1)) else if k = 3 then decide (n = 0) else if k = 4 then decide (n = 0) && decide (2 ≤ c)
  else if k = 5 then decide (c = 0) && decide (0 ≤ n) else if k = 6 then decide (0 < n) || (decide (n = 0) && decide (c = 0)) else false
mutual
def okV : V → Bool
  | .mk k n l => vhead k n l.length && okVs l
def okVs : List V → Bool
  | [] => true
  | x :: r => okV x && okVs r
end
theorem okVs_take {l : List V} {i : Nat} (hi : i < l.length) : okVs (l.take (i + 1)) = (okVs (l.take i) && okV l[i]) := by
  induction l generalizing i with
  | nil => simp at hi
  | cons x r ih => cases i with
    | zero => simp [okVs]
    | succ i => simp only [List.take_succ_cons, okVs, List.getElem_cons_succ]; rw [ih (by simpa using hi), Bool.and_assoc]
set_option maxRecDepth 100000 in
set_option maxHeartbeats 4000000 in
theorem valid_step (ho : NoOrcBut [9, 35, 36] orc) {H0 : AH} (W0 : Wf H0) (ka na : Int) (la : List V) (sa : AV) (h1 : SA H0 la sa) (ih : ∀ x ∈ la, ∀ (H : AH), Wf H → ∀ (a : List AV), VA H x a → Fin Try.prog orc 13 [.agg a] H (fun r H' => r = .bool (okV x) ∧ Ext H H')) : Fin Try.prog orc 13 [.agg [.int .i64 (ka), .int .i64 (na), sa]] H0 (fun r H' => r = .bool (okV (.mk ka na la)) ∧ Ext H0 H') := by
  have E0 := Ext.refl W0
  have bb1 := h1.bound
  refine fin_of Try.func13 rfl (by rw [Try.ntmps13]; simp) (ho _ rfl _ _) ?_
  rw [Try.ntmps13]
  refine w_seq ?_
  refine w_region ?_
  refine o_nw W0 (a_box (by simp only [ev, envOf, val_set, ofValue, ofCell, ↓reduceIte, Nat.reduceEqDiff] <;> rfl)) rfl rfl rfl (by simp) ?_; intro H1 n1 W1 X1 A1
  have A1 : H1.at H0.n = some (.row [.int .i64 (ka), .int .i64 (na), sa] 24 false none) := A1
  have E1 := E0.trans X1
  refine o_rd (r_assign (by simp only [ev, envOf, val_set, ofValue, ofCell, ↓reduceIte, Nat.reduceEqDiff] <;> rfl)) rfl rfl ?_
  refine o_nil ?_
  refine w_seq ?_
  refine w_region ?_
  refine o_rd (r_fieldAddr Ty.fo24_2 (by simp only [ev, envOf, val_set, ofValue, ofCell, ↓reduceIte, Nat.reduceEqDiff] <;> rfl)) rfl rfl ?_
  refine o_rd (r_load1 (v := sa) Ty.agg22 (by simp only [ev, envOf, val_set, ofValue, ofCell, ↓reduceIte, Nat.reduceEqDiff] <;> rfl) (read_mt A1 (Nat.le_of_ble_eq_true rfl))) rfl rfl ?_
  refine o_rd (r_len (n := la.length) Try.underlying22 (by simp only [ev, envOf, val_set, ofValue, ofCell, ↓reduceIte, Nat.reduceEqDiff] <;> rfl) h1.lenOf) rfl rfl ?_
  refine o_rd (r_eq (a := ((la.length : Nat) : Int)) (b := 0) (by simp only [ev, envOf, val_set, ofValue, ofCell, ↓reduceIte, Nat.reduceEqDiff] <;> rfl) (by simp only [ev, envOf, val_set, ofValue, ofCell, ↓reduceIte, Nat.reduceEqDiff] <;> rfl)) rfl rfl ?_
  refine o_rd (r_assign (by simp only [ev, envOf, val_set, ofValue, ofCell, ↓reduceIte, Nat.reduceEqDiff] <;> rfl)) rfl rfl ?_
  refine o_nil ?_
  refine w_seq ?_
  refine w_region ?_
  refine o_rd (r_assign (by simp only [ev, envOf, val_set, ofValue, ofCell, ↓reduceIte, Nat.reduceEqDiff] <;> rfl)) rfl rfl ?_
  refine o_nil ?_
  refine w_seqC (fun s => ∃ (e : Env) (H : AH), s = ⟨e, H, []⟩ ∧ e.val 1 = .ptr (.mt H0.n) 0 ∧ e.val 2 = .bool (false) ∧ e.val 4 = .bool (vhead ka na la.length) ∧ Wf H ∧ Ext H0 H ∧ H.at (H0.n) = some (.row [.int .i64 (ka), .int .i64 (na), sa] 24 false none)) ?_ ?_
  · skip
    refine w_seq ?_
    refine w_region ?_
    refine o_rd (r_fieldAddr Ty.fo24_0 (by simp only [ev, envOf, val_set, ofValue, ofCell, ↓reduceIte, Nat.reduceEqDiff] <;> rfl)) rfl rfl ?_
    refine o_rd (r_load1 (v := .int .i64 (ka)) Ty.agg3 (by simp only [ev, envOf, val_set, ofValue, ofCell, ↓reduceIte, Nat.reduceEqDiff] <;> rfl) (read_mt A1 (Nat.le_of_ble_eq_true rfl))) rfl rfl ?_
    refine o_nil ?_
    refine w_block ?_
    refine w_seq ?_
    refine w_region ?_
    refine o_rd (r_eq (a := ka) (b := 1) (by simp only [ev, envOf, val_set, ofValue, ofCell, ↓reduceIte, Nat.reduceEqDiff] <;> rfl) (by simp only [ev, envOf, val_set, ofValue, ofCell, ↓reduceIte, Nat.reduceEqDiff] <;> rfl)) rfl rfl ?_
    refine o_rd (r_assign (by simp only [ev, envOf, val_set, ofValue, ofCell, ↓reduceIte, Nat.reduceEqDiff] <;> rfl)) rfl rfl ?_
    refine o_nil ?_
    refine w_cond (by simp only [ev, envOf, val_set, ofValue, ofCell, ↓reduceIte, Nat.reduceEqDiff] <;> rfl) (fun hc2 => ?_) (fun hc2 => ?_)
    · have hc2 := dec_t hc2
      refine w_region ?_
      refine o_rd (r_move (by simp only [ev, envOf, val_set, ofValue, ofCell, ↓reduceIte, Nat.reduceEqDiff] <;> rfl)) rfl rfl ?_
      refine o_rd (r_assign (by simp only [ev, envOf, val_set, ofValue, ofCell, ↓reduceIte, Nat.reduceEqDiff] <;> rfl)) rfl rfl ?_
      refine o_nil ?_
      exact ⟨_, H1, rfl, (by simp only [val_set, ↓reduceIte, Nat.reduceEqDiff] <;> rfl), (by simp only [val_set, ↓reduceIte, Nat.reduceEqDiff] <;> rfl), (by simp only [val_set, ↓reduceIte, Nat.reduceEqDiff]; first | (simp [vhead, hc2]; done) | (refine congrArg AV.bool ?_; unfold vhead; repeat' split) <;> first | (exfalso; omega) | (rw [Bool.eq_iff_iff]; simp only [decide_eq_true_eq, Bool.and_eq_true, Bool.or_eq_true, Bool.false_eq_true, reduceCtorEq, iff_true, iff_false, true_iff, false_iff]; omega)), W1, E1, A1⟩
    · have hc2 := dec_f hc2
      refine w_seq ?_
      refine w_region ?_
      refine o_rd (r_eq (a := ka) (b := 2) (by simp only [ev, envOf, val_set, ofValue, ofCell, ↓reduceIte, Nat.reduceEqDiff] <;> rfl) (by simp only [ev, envOf, val_set, ofValue, ofCell, ↓reduceIte, Nat.reduceEqDiff] <;> rfl)) rfl rfl ?_
      refine o_rd (r_assign (by simp only [ev, envOf, val_set, ofValue, ofCell, ↓reduceIte, Nat.reduceEqDiff] <;> rfl)) rfl rfl ?_
      refine o_nil ?_
      refine w_cond (by simp only [ev, envOf, val_set, ofValue, ofCell, ↓reduceIte, Nat.reduceEqDiff] <;> rfl) (fun hc3 => ?_) (fun hc3 => ?_)
      · have hc3 := dec_t hc3
        refine w_region ?_
        refine o_rd (r_move (by simp only [ev, envOf, val_set, ofValue, ofCell, ↓reduceIte, Nat.reduceEqDiff] <;> rfl)) rfl rfl ?_
        refine o_rd (r_move (by simp only [ev, envOf, val_set, ofValue, ofCell, ↓reduceIte, Nat.reduceEqDiff] <;> rfl)) rfl rfl ?_
        cases hg4 : (decide (((la.length : Nat) : Int) = 0) : Bool)
        · have hg4 := dec_f hg4
          refine o_sk rfl ((wanted_of (b := false) rfl rfl rfl (by simp only [val_set, ↓reduceIte, Nat.reduceEqDiff] <;> rfl)).trans rfl) ?_
          refine o_sk rfl ((wanted_of (b := false) rfl rfl rfl (by simp only [val_set, ↓reduceIte, Nat.reduceEqDiff] <;> rfl)).trans rfl) ?_
          refine o_sk rfl ((wanted_of (b := false) rfl rfl rfl (by simp only [val_set, ↓reduceIte, Nat.reduceEqDiff] <;> rfl)).trans rfl) ?_
          refine o_sk rfl ((wanted_of (b := false) rfl rfl rfl (by simp only [val_set, ↓reduceIte, Nat.reduceEqDiff] <;> rfl)).trans rfl) ?_
          refine o_sk rfl (wanted_no rfl rfl rfl (by simp only [val_set, ↓reduceIte, Nat.reduceEqDiff] <;> rfl)) ?_
          refine o_sk rfl (wanted_no rfl rfl rfl (by simp only [val_set, ↓reduceIte, Nat.reduceEqDiff] <;> rfl)) ?_
          refine o_sk rfl (wanted_no rfl rfl rfl (by simp only [val_set, ↓reduceIte, Nat.reduceEqDiff] <;> rfl)) ?_
          refine o_sk rfl ((wanted_of (b := false) rfl rfl rfl (by simp only [val_set, ↓reduceIte, Nat.reduceEqDiff] <;> rfl)).trans rfl) ?_
          refine o_rd (r_pick (t := false) (by simp only [ev, envOf, val_set, ofValue, ofCell, ↓reduceIte, Nat.reduceEqDiff] <;> rfl) (fun h => by cases h) (fun _ => (by simp only [ev, envOf, val_set, ofValue, ofCell, ↓reduceIte, Nat.reduceEqDiff] <;> rfl))) rfl rfl ?_
          refine o_rd (r_assign (by simp only [ev, envOf, val_set, ofValue, ofCell, ↓reduceIte, Nat.reduceEqDiff] <;> rfl)) rfl rfl ?_
          refine o_nil ?_
          exact ⟨_, H1, rfl, (by simp only [val_set, ↓reduceIte, Nat.reduceEqDiff] <;> rfl), (by simp only [val_set, ↓reduceIte, Nat.reduceEqDiff] <;> rfl), (by simp only [val_set, ↓reduceIte, Nat.reduceEqDiff]; first | (simp [vhead, hc2, hc3, hg4]; done) | (refine congrArg AV.bool ?_; unfold vhead; repeat' split) <;> first | (exfalso; omega) | (rw [Bool.eq_iff_iff]; simp only [decide_eq_true_eq, Bool.and_eq_true, Bool.or_eq_true, Bool.false_eq_true, reduceCtorEq, iff_true, iff_false, true_iff, false_iff]; omega)), W1, E1, A1⟩
        · have hg4 := dec_t hg4
          refine o_rd (r_fieldAddr Ty.fo24_1 (by simp only [ev, envOf, val_set, ofValue, ofCell, ↓reduceIte, Nat.reduceEqDiff] <;> rfl)) rfl ((wanted_of (b := true) rfl rfl rfl (by simp only [val_set, ↓reduceIte, Nat.reduceEqDiff] <;> rfl)).trans rfl) ?_
          refine o_rd (r_load1 (v := .int .i64 (na)) Ty.agg3 (by simp only [ev, envOf, val_set, ofValue, ofCell, ↓reduceIte, Nat.reduceEqDiff] <;> rfl) (read_mt A1 (Nat.le_of_ble_eq_true rfl))) rfl ((wanted_of (b := true) rfl rfl rfl (by simp only [val_set, ↓reduceIte, Nat.reduceEqDiff] <;> rfl)).trans rfl) ?_
          refine o_rd (r_eq (a := na) (b := 0) (by simp only [ev, envOf, val_set, ofValue, ofCell, ↓reduceIte, Nat.reduceEqDiff] <;> rfl) (by simp only [ev, envOf, val_set, ofValue, ofCell, ↓reduceIte, Nat.reduceEqDiff] <;> rfl)) rfl ((wanted_of (b := true) rfl rfl rfl (by simp only [val_set, ↓reduceIte, Nat.reduceEqDiff] <;> rfl)).trans rfl) ?_
          refine o_rd (r_move (by simp only [ev, envOf, val_set, ofValue, ofCell, ↓reduceIte, Nat.reduceEqDiff] <;> rfl)) rfl ((wanted_of (b := true) rfl rfl rfl (by simp only [val_set, ↓reduceIte, Nat.reduceEqDiff] <;> rfl)).trans rfl) ?_
          cases hg5 : (decide (na = 0) : Bool)
          · have hg5 := dec_f hg5
            refine o_rd (r_fieldAddr Ty.fo24_1 (by simp only [ev, envOf, val_set, ofValue, ofCell, ↓reduceIte, Nat.reduceEqDiff] <;> rfl)) rfl ((wanted_of (b := false) rfl rfl rfl (by simp only [val_set, ↓reduceIte, Nat.reduceEqDiff] <;> rfl)).trans rfl) ?_
            refine o_rd (r_load1 (v := .int .i64 (na)) Ty.agg3 (by simp only [ev, envOf, val_set, ofValue, ofCell, ↓reduceIte, Nat.reduceEqDiff] <;> rfl) (read_mt A1 (Nat.le_of_ble_eq_true rfl))) rfl ((wanted_of (b := false) rfl rfl rfl (by simp only [val_set, ↓reduceIte, Nat.reduceEqDiff] <;> rfl)).trans rfl) ?_
            refine o_rd (r_eq (a := na) (b := 1) (by simp only [ev, envOf, val_set, ofValue, ofCell, ↓reduceIte, Nat.reduceEqDiff] <;> rfl) (by simp only [ev, envOf, val_set, ofValue, ofCell, ↓reduceIte, Nat.reduceEqDiff] <;> rfl)) rfl ((wanted_of (b := false) rfl rfl rfl (by simp only [val_set, ↓reduceIte, Nat.reduceEqDiff] <;> rfl)).trans rfl) ?_
            refine o_rd (r_pick (t := false) (by simp only [ev, envOf, val_set, ofValue, ofCell, ↓reduceIte, Nat.reduceEqDiff] <;> rfl) (fun h => by cases h) (fun _ => (by simp only [ev, envOf, val_set, ofValue, ofCell, ↓reduceIte, Nat.reduceEqDiff] <;> rfl))) rfl ((wanted_of (b := true) rfl rfl rfl (by simp only [val_set, ↓reduceIte, Nat.reduceEqDiff] <;> rfl)).trans rfl) ?_
            refine o_rd (r_pick (t := true) (by simp only [ev, envOf, val_set, ofValue, ofCell, ↓reduceIte, Nat.reduceEqDiff] <;> rfl) (fun _ => (by simp only [ev, envOf, val_set, ofValue, ofCell, ↓reduceIte, Nat.reduceEqDiff] <;> rfl)) (fun h => by cases h)) rfl rfl ?_
            refine o_rd (r_assign (by simp only [ev, envOf, val_set, ofValue, ofCell, ↓reduceIte, Nat.reduceEqDiff] <;> rfl)) rfl rfl ?_
            refine o_nil ?_
            exact ⟨_, H1, rfl, (by simp only [val_set, ↓reduceIte, Nat.reduceEqDiff] <;> rfl), (by simp only [val_set, ↓reduceIte, Nat.reduceEqDiff] <;> rfl), (by simp only [val_set, ↓reduceIte, Nat.reduceEqDiff]; first | (simp [vhead, hc2, hc3, hg4, hg5]; done) | (refine congrArg AV.bool ?_; unfold vhead; repeat' split) <;> first | (exfalso; omega) | (rw [Bool.eq_iff_iff]; simp only [decide_eq_true_eq, Bool.and_eq_true, Bool.or_eq_true, Bool.false_eq_true, reduceCtorEq, iff_true, iff_false, true_iff, false_iff]; omega)), W1, E1, A1⟩
          · have hg5 := dec_t hg5
            refine o_sk rfl ((wanted_of (b := true) rfl rfl rfl (by simp only [val_set, ↓reduceIte, Nat.reduceEqDiff] <;> rfl)).trans rfl) ?_
            refine o_sk rfl ((wanted_of (b := true) rfl rfl rfl (by simp only [val_set, ↓reduceIte, Nat.reduceEqDiff] <;> rfl)).trans rfl) ?_
            refine o_sk rfl ((wanted_of (b := true) rfl rfl rfl (by simp only [val_set, ↓reduceIte, Nat.reduceEqDiff] <;> rfl)).trans rfl) ?_
            refine o_rd (r_pick (t := true) (by simp only [ev, envOf, val_set, ofValue, ofCell, ↓reduceIte, Nat.reduceEqDiff] <;> rfl) (fun _ => (by simp only [ev, envOf, val_set, ofValue, ofCell, ↓reduceIte, Nat.reduceEqDiff] <;> rfl)) (fun h => by cases h)) rfl ((wanted_of (b := true) rfl rfl rfl (by simp only [val_set, ↓reduceIte, Nat.reduceEqDiff] <;> rfl)).trans rfl) ?_
            refine o_rd (r_pick (t := true) (by simp only [ev, envOf, val_set, ofValue, ofCell, ↓reduceIte, Nat.reduceEqDiff] <;> rfl) (fun _ => (by simp only [ev, envOf, val_set, ofValue, ofCell, ↓reduceIte, Nat.reduceEqDiff] <;> rfl)) (fun h => by cases h)) rfl rfl ?_
            refine o_rd (r_assign (by simp only [ev, envOf, val_set, ofValue, ofCell, ↓reduceIte, Nat.reduceEqDiff] <;> rfl)) rfl rfl ?_
            refine o_nil ?_
            exact ⟨_, H1, rfl, (by simp only [val_set, ↓reduceIte, Nat.reduceEqDiff] <;> rfl), (by simp only [val_set, ↓reduceIte, Nat.reduceEqDiff] <;> rfl), (by simp only [val_set, ↓reduceIte, Nat.reduceEqDiff]; first | (simp [vhead, hc2, hc3, hg4, hg5]; done) | (refine congrArg AV.bool ?_; unfold vhead; repeat' split) <;> first | (exfalso; omega) | (rw [Bool.eq_iff_iff]; simp only [decide_eq_true_eq, Bool.and_eq_true, Bool.or_eq_true, Bool.false_eq_true, reduceCtorEq, iff_true, iff_false, true_iff, false_iff]; omega)), W1, E1, A1⟩
      · have hc3 := dec_f hc3
        refine w_seq ?_
        refine w_region ?_
        refine o_rd (r_eq (a := ka) (b := 3) (by simp only [ev, envOf, val_set, ofValue, ofCell, ↓reduceIte, Nat.reduceEqDiff] <;> rfl) (by simp only [ev, envOf, val_set, ofValue, ofCell, ↓reduceIte, Nat.reduceEqDiff] <;> rfl)) rfl rfl ?_
        refine o_rd (r_assign (by simp only [ev, envOf, val_set, ofValue, ofCell, ↓reduceIte, Nat.reduceEqDiff] <;> rfl)) rfl rfl ?_
        refine o_nil ?_
        refine w_cond (by simp only [ev, envOf, val_set, ofValue, ofCell, ↓reduceIte, Nat.reduceEqDiff] <;> rfl) (fun hc6 => ?_) (fun hc6 => ?_)
        · have hc6 := dec_t hc6
          refine w_region ?_
          refine o_rd (r_fieldAddr Ty.fo24_1 (by simp only [ev, envOf, val_set, ofValue, ofCell, ↓reduceIte, Nat.reduceEqDiff] <;> rfl)) rfl rfl ?_
          refine o_rd (r_load1 (v := .int .i64 (na)) Ty.agg3 (by simp only [ev, envOf, val_set, ofValue, ofCell, ↓reduceIte, Nat.reduceEqDiff] <;> rfl) (read_mt A1 (Nat.le_of_ble_eq_true rfl))) rfl rfl ?_
          refine o_rd (r_eq (a := na) (b := 0) (by simp only [ev, envOf, val_set, ofValue, ofCell, ↓reduceIte, Nat.reduceEqDiff] <;> rfl) (by simp only [ev, envOf, val_set, ofValue, ofCell, ↓reduceIte, Nat.reduceEqDiff] <;> rfl)) rfl rfl ?_
          refine o_rd (r_assign (by simp only [ev, envOf, val_set, ofValue, ofCell, ↓reduceIte, Nat.reduceEqDiff] <;> rfl)) rfl rfl ?_
          refine o_nil ?_
          exact ⟨_, H1, rfl, (by simp only [val_set, ↓reduceIte, Nat.reduceEqDiff] <;> rfl), (by simp only [val_set, ↓reduceIte, Nat.reduceEqDiff] <;> rfl), (by simp only [val_set, ↓reduceIte, Nat.reduceEqDiff]; first | (simp [vhead, hc2, hc3, hc6]; done) | (refine congrArg AV.bool ?_; unfold vhead; repeat' split) <;> first | (exfalso; omega) | (rw [Bool.eq_iff_iff]; simp only [decide_eq_true_eq, Bool.and_eq_true, Bool.or_eq_true, Bool.false_eq_true, reduceCtorEq, iff_true, iff_false, true_iff, false_iff]; omega)), W1, E1, A1⟩
        · have hc6 := dec_f hc6
          refine w_seq ?_
          refine w_region ?_
          refine o_rd (r_eq (a := ka) (b := 4) (by simp only [ev, envOf, val_set, ofValue, ofCell, ↓reduceIte, Nat.reduceEqDiff] <;> rfl) (by simp only [ev, envOf, val_set, ofValue, ofCell, ↓reduceIte, Nat.reduceEqDiff] <;> rfl)) rfl rfl ?_
          refine o_rd (r_assign (by simp only [ev, envOf, val_set, ofValue, ofCell, ↓reduceIte, Nat.reduceEqDiff] <;> rfl)) rfl rfl ?_
          refine o_nil ?_
          refine w_cond (by simp only [ev, envOf, val_set, ofValue, ofCell, ↓reduceIte, Nat.reduceEqDiff] <;> rfl) (fun hc7 => ?_) (fun hc7 => ?_)
          · have hc7 := dec_t hc7
            refine w_region ?_
            refine o_rd (r_fieldAddr Ty.fo24_1 (by simp only [ev, envOf, val_set, ofValue, ofCell, ↓reduceIte, Nat.reduceEqDiff] <;> rfl)) rfl rfl ?_
            refine o_rd (r_load1 (v := .int .i64 (na)) Ty.agg3 (by simp only [ev, envOf, val_set, ofValue, ofCell, ↓reduceIte, Nat.reduceEqDiff] <;> rfl) (read_mt A1 (Nat.le_of_ble_eq_true rfl))) rfl rfl ?_
            refine o_rd (r_eq (a := na) (b := 0) (by simp only [ev, envOf, val_set, ofValue, ofCell, ↓reduceIte, Nat.reduceEqDiff] <;> rfl) (by simp only [ev, envOf, val_set, ofValue, ofCell, ↓reduceIte, Nat.reduceEqDiff] <;> rfl)) rfl rfl ?_
            refine o_rd (r_move (by simp only [ev, envOf, val_set, ofValue, ofCell, ↓reduceIte, Nat.reduceEqDiff] <;> rfl)) rfl rfl ?_
            cases hg8 : (decide (na = 0) : Bool)
            · have hg8 := dec_f hg8
              refine o_sk rfl ((wanted_of (b := false) rfl rfl rfl (by simp only [val_set, ↓reduceIte, Nat.reduceEqDiff] <;> rfl)).trans rfl) ?_
              refine o_sk rfl ((wanted_of (b := false) rfl rfl rfl (by simp only [val_set, ↓reduceIte, Nat.reduceEqDiff] <;> rfl)).trans rfl) ?_
              refine o_sk rfl ((wanted_of (b := false) rfl rfl rfl (by simp only [val_set, ↓reduceIte, Nat.reduceEqDiff] <;> rfl)).trans rfl) ?_
              refine o_sk rfl ((wanted_of (b := false) rfl rfl rfl (by simp only [val_set, ↓reduceIte, Nat.reduceEqDiff] <;> rfl)).trans rfl) ?_
              refine o_rd (r_pick (t := false) (by simp only [ev, envOf, val_set, ofValue, ofCell, ↓reduceIte, Nat.reduceEqDiff] <;> rfl) (fun h => by cases h) (fun _ => (by simp only [ev, envOf, val_set, ofValue, ofCell, ↓reduceIte, Nat.reduceEqDiff] <;> rfl))) rfl rfl ?_
              refine o_rd (r_assign (by simp only [ev, envOf, val_set, ofValue, ofCell, ↓reduceIte, Nat.reduceEqDiff] <;> rfl)) rfl rfl ?_
              refine o_nil ?_
              exact ⟨_, H1, rfl, (by simp only [val_set, ↓reduceIte, Nat.reduceEqDiff] <;> rfl), (by simp only [val_set, ↓reduceIte, Nat.reduceEqDiff] <;> rfl), (by simp only [val_set, ↓reduceIte, Nat.reduceEqDiff]; first | (simp [vhead, hc2, hc3, hc6, hc7, hg8]; done) | (refine congrArg AV.bool ?_; unfold vhead; repeat' split) <;> first | (exfalso; omega) | (rw [Bool.eq_iff_iff]; simp only [decide_eq_true_eq, Bool.and_eq_true, Bool.or_eq_true, Bool.false_eq_true, reduceCtorEq, iff_true, iff_false, true_iff, false_iff]; omega)), W1, E1, A1⟩
            · have hg8 := dec_t hg8
              refine o_rd (r_fieldAddr Ty.fo24_2 (by simp only [ev, envOf, val_set, ofValue, ofCell, ↓reduceIte, Nat.reduceEqDiff] <;> rfl)) rfl ((wanted_of (b := true) rfl rfl rfl (by simp only [val_set, ↓reduceIte, Nat.reduceEqDiff] <;> rfl)).trans rfl) ?_
              refine o_rd (r_load1 (v := sa) Ty.agg22 (by simp only [ev, envOf, val_set, ofValue, ofCell, ↓reduceIte, Nat.reduceEqDiff] <;> rfl) (read_mt A1 (Nat.le_of_ble_eq_true rfl))) rfl ((wanted_of (b := true) rfl rfl rfl (by simp only [val_set, ↓reduceIte, Nat.reduceEqDiff] <;> rfl)).trans rfl) ?_
              refine o_rd (r_len (n := la.length) Try.underlying22 (by simp only [ev, envOf, val_set, ofValue, ofCell, ↓reduceIte, Nat.reduceEqDiff] <;> rfl) h1.lenOf) rfl ((wanted_of (b := true) rfl rfl rfl (by simp only [val_set, ↓reduceIte, Nat.reduceEqDiff] <;> rfl)).trans rfl) ?_
              refine o_rd (r_ge (a := ((la.length : Nat) : Int)) (b := 2) (by simp only [ev, envOf, val_set, ofValue, ofCell, ↓reduceIte, Nat.reduceEqDiff] <;> rfl) (by simp only [ev, envOf, val_set, ofValue, ofCell, ↓reduceIte, Nat.reduceEqDiff] <;> rfl)) rfl ((wanted_of (b := true) rfl rfl rfl (by simp only [val_set, ↓reduceIte, Nat.reduceEqDiff] <;> rfl)).trans rfl) ?_
              refine o_rd (r_pick (t := true) (by simp only [ev, envOf, val_set, ofValue, ofCell, ↓reduceIte, Nat.reduceEqDiff] <;> rfl) (fun _ => (by simp only [ev, envOf, val_set, ofValue, ofCell, ↓reduceIte, Nat.reduceEqDiff] <;> rfl)) (fun h => by cases h)) rfl rfl ?_
              refine o_rd (r_assign (by simp only [ev, envOf, val_set, ofValue, ofCell, ↓reduceIte, Nat.reduceEqDiff] <;> rfl)) rfl rfl ?_
              refine o_nil ?_
              exact ⟨_, H1, rfl, (by simp only [val_set, ↓reduceIte, Nat.reduceEqDiff] <;> rfl), (by simp only [val_set, ↓reduceIte, Nat.reduceEqDiff] <;> rfl), (by simp only [val_set, ↓reduceIte, Nat.reduceEqDiff]; first | (simp [vhead, hc2, hc3, hc6, hc7, hg8]; done) | (refine congrArg AV.bool ?_; unfold vhead; repeat' split) <;> first | (exfalso; omega) | (rw [Bool.eq_iff_iff]; simp only [decide_eq_true_eq, Bool.and_eq_true, Bool.or_eq_true, Bool.false_eq_true, reduceCtorEq, iff_true, iff_false, true_iff, false_iff]; omega)), W1, E1, A1⟩
          · have hc7 := dec_f hc7
            refine w_seq ?_
            refine w_region ?_
            refine o_rd (r_eq (a := ka) (b := 5) (by simp only [ev, envOf, val_set, ofValue, ofCell, ↓reduceIte, Nat.reduceEqDiff] <;> rfl) (by simp only [ev, envOf, val_set, ofValue, ofCell, ↓reduceIte, Nat.reduceEqDiff] <;> rfl)) rfl rfl ?_
            refine o_rd (r_assign (by simp only [ev, envOf, val_set, ofValue, ofCell, ↓reduceIte, Nat.reduceEqDiff] <;> rfl)) rfl rfl ?_
            refine o_nil ?_
            refine w_cond (by simp only [ev, envOf, val_set, ofValue, ofCell, ↓reduceIte, Nat.reduceEqDiff] <;> rfl) (fun hc9 => ?_) (fun hc9 => ?_)
            · have hc9 := dec_t hc9
              refine w_region ?_
              refine o_rd (r_move (by simp only [ev, envOf, val_set, ofValue, ofCell, ↓reduceIte, Nat.reduceEqDiff] <;> rfl)) rfl rfl ?_
              refine o_rd (r_move (by simp only [ev, envOf, val_set, ofValue, ofCell, ↓reduceIte, Nat.reduceEqDiff] <;> rfl)) rfl rfl ?_
              cases hg10 : (decide (((la.length : Nat) : Int) = 0) : Bool)
              · have hg10 := dec_f hg10
                refine o_sk rfl ((wanted_of (b := false) rfl rfl rfl (by simp only [val_set, ↓reduceIte, Nat.reduceEqDiff] <;> rfl)).trans rfl) ?_
                refine o_sk rfl ((wanted_of (b := false) rfl rfl rfl (by simp only [val_set, ↓reduceIte, Nat.reduceEqDiff] <;> rfl)).trans rfl) ?_
                refine o_sk rfl ((wanted_of (b := false) rfl rfl rfl (by simp only [val_set, ↓reduceIte, Nat.reduceEqDiff] <;> rfl)).trans rfl) ?_
                refine o_rd (r_pick (t := false) (by simp only [ev, envOf, val_set, ofValue, ofCell, ↓reduceIte, Nat.reduceEqDiff] <;> rfl) (fun h => by cases h) (fun _ => (by simp only [ev, envOf, val_set, ofValue, ofCell, ↓reduceIte, Nat.reduceEqDiff] <;> rfl))) rfl rfl ?_
                refine o_rd (r_assign (by simp only [ev, envOf, val_set, ofValue, ofCell, ↓reduceIte, Nat.reduceEqDiff] <;> rfl)) rfl rfl ?_
                refine o_nil ?_
                exact ⟨_, H1, rfl, (by simp only [val_set, ↓reduceIte, Nat.reduceEqDiff] <;> rfl), (by simp only [val_set, ↓reduceIte, Nat.reduceEqDiff] <;> rfl), (by simp only [val_set, ↓reduceIte, Nat.reduceEqDiff]; first | (simp [vhead, hc2, hc3, hc6, hc7, hc9, hg10]; done) | (refine congrArg AV.bool ?_; unfold vhead; repeat' split) <;> first | (exfalso; omega) | (rw [Bool.eq_iff_iff]; simp only [decide_eq_true_eq, Bool.and_eq_true, Bool.or_eq_true, Bool.false_eq_true, reduceCtorEq, iff_true, iff_false, true_iff, false_iff]; omega)), W1, E1, A1⟩
              · have hg10 := dec_t hg10
                refine o_rd (r_fieldAddr Ty.fo24_1 (by simp only [ev, envOf, val_set, ofValue, ofCell, ↓reduceIte, Nat.reduceEqDiff] <;> rfl)) rfl ((wanted_of (b := true) rfl rfl rfl (by simp only [val_set, ↓reduceIte, Nat.reduceEqDiff] <;> rfl)).trans rfl) ?_
                refine o_rd (r_load1 (v := .int .i64 (na)) Ty.agg3 (by simp only [ev, envOf, val_set, ofValue, ofCell, ↓reduceIte, Nat.reduceEqDiff] <;> rfl) (read_mt A1 (Nat.le_of_ble_eq_true rfl))) rfl ((wanted_of (b := true) rfl rfl rfl (by simp only [val_set, ↓reduceIte, Nat.reduceEqDiff] <;> rfl)).trans rfl) ?_
                refine o_rd (r_ge (a := na) (b := 0) (by simp only [ev, envOf, val_set, ofValue, ofCell, ↓reduceIte, Nat.reduceEqDiff] <;> rfl) (by simp only [ev, envOf, val_set, ofValue, ofCell, ↓reduceIte, Nat.reduceEqDiff] <;> rfl)) rfl ((wanted_of (b := true) rfl rfl rfl (by simp only [val_set, ↓reduceIte, Nat.reduceEqDiff] <;> rfl)).trans rfl) ?_
                refine o_rd (r_pick (t := true) (by simp only [ev, envOf, val_set, ofValue, ofCell, ↓reduceIte, Nat.reduceEqDiff] <;> rfl) (fun _ => (by simp only [ev, envOf, val_set, ofValue, ofCell, ↓reduceIte, Nat.reduceEqDiff] <;> rfl)) (fun h => by cases h)) rfl rfl ?_
                refine o_rd (r_assign (by simp only [ev, envOf, val_set, ofValue, ofCell, ↓reduceIte, Nat.reduceEqDiff] <;> rfl)) rfl rfl ?_
                refine o_nil ?_
                exact ⟨_, H1, rfl, (by simp only [val_set, ↓reduceIte, Nat.reduceEqDiff] <;> rfl), (by simp only [val_set, ↓reduceIte, Nat.reduceEqDiff] <;> rfl), (by simp only [val_set, ↓reduceIte, Nat.reduceEqDiff]; first | (simp [vhead, hc2, hc3, hc6, hc7, hc9, hg10]; done) | (refine congrArg AV.bool ?_; unfold vhead; repeat' split) <;> first | (exfalso; omega) | (rw [Bool.eq_iff_iff]; simp only [decide_eq_true_eq, Bool.and_eq_true, Bool.or_eq_true, Bool.false_eq_true, reduceCtorEq, iff_true, iff_false, true_iff, false_iff]; omega)), W1, E1, A1⟩
            · have hc9 := dec_f hc9
              refine w_seq ?_
              refine w_region ?_
              refine o_rd (r_eq (a := ka) (b := 6) (by simp only [ev, envOf, val_set, ofValue, ofCell, ↓reduceIte, Nat.reduceEqDiff] <;> rfl) (by simp only [ev, envOf, val_set, ofValue, ofCell, ↓reduceIte, Nat.reduceEqDiff] <;> rfl)) rfl rfl ?_
              refine o_rd (r_assign (by simp only [ev, envOf, val_set, ofValue, ofCell, ↓reduceIte, Nat.reduceEqDiff] <;> rfl)) rfl rfl ?_
              refine o_nil ?_
              refine w_cond (by simp only [ev, envOf, val_set, ofValue, ofCell, ↓reduceIte, Nat.reduceEqDiff] <;> rfl) (fun hc11 => ?_) (fun hc11 => ?_)
              · have hc11 := dec_t hc11
                refine w_region ?_
                refine o_rd (r_fieldAddr Ty.fo24_1 (by simp only [ev, envOf, val_set, ofValue, ofCell, ↓reduceIte, Nat.reduceEqDiff] <;> rfl)) rfl rfl ?_
                refine o_rd (r_load1 (v := .int .i64 (na)) Ty.agg3 (by simp only [ev, envOf, val_set, ofValue, ofCell, ↓reduceIte, Nat.reduceEqDiff] <;> rfl) (read_mt A1 (Nat.le_of_ble_eq_true rfl))) rfl rfl ?_
                refine o_rd (r_gt (a := na) (b := 0) (by simp only [ev, envOf, val_set, ofValue, ofCell, ↓reduceIte, Nat.reduceEqDiff] <;> rfl) (by simp only [ev, envOf, val_set, ofValue, ofCell, ↓reduceIte, Nat.reduceEqDiff] <;> rfl)) rfl rfl ?_
                refine o_rd (r_move (by simp only [ev, envOf, val_set, ofValue, ofCell, ↓reduceIte, Nat.reduceEqDiff] <;> rfl)) rfl rfl ?_
                cases hg12 : (decide (0 < na) : Bool)
                · have hg12 := dec_f hg12
                  refine o_rd (r_fieldAddr Ty.fo24_1 (by simp only [ev, envOf, val_set, ofValue, ofCell, ↓reduceIte, Nat.reduceEqDiff] <;> rfl)) rfl ((wanted_of (b := false) rfl rfl rfl (by simp only [val_set, ↓reduceIte, Nat.reduceEqDiff] <;> rfl)).trans rfl) ?_
                  refine o_rd (r_load1 (v := .int .i64 (na)) Ty.agg3 (by simp only [ev, envOf, val_set, ofValue, ofCell, ↓reduceIte, Nat.reduceEqDiff] <;> rfl) (read_mt A1 (Nat.le_of_ble_eq_true rfl))) rfl ((wanted_of (b := false) rfl rfl rfl (by simp only [val_set, ↓reduceIte, Nat.reduceEqDiff] <;> rfl)).trans rfl) ?_
                  refine o_rd (r_eq (a := na) (b := 0) (by simp only [ev, envOf, val_set, ofValue, ofCell, ↓reduceIte, Nat.reduceEqDiff] <;> rfl) (by simp only [ev, envOf, val_set, ofValue, ofCell, ↓reduceIte, Nat.reduceEqDiff] <;> rfl)) rfl ((wanted_of (b := false) rfl rfl rfl (by simp only [val_set, ↓reduceIte, Nat.reduceEqDiff] <;> rfl)).trans rfl) ?_
                  refine o_rd (r_move (by simp only [ev, envOf, val_set, ofValue, ofCell, ↓reduceIte, Nat.reduceEqDiff] <;> rfl)) rfl ((wanted_of (b := false) rfl rfl rfl (by simp only [val_set, ↓reduceIte, Nat.reduceEqDiff] <;> rfl)).trans rfl) ?_
                  cases hg13 : (decide (na = 0) : Bool)
                  · have hg13 := dec_f hg13
                    refine o_sk rfl ((wanted_of (b := false) rfl rfl rfl (by simp only [val_set, ↓reduceIte, Nat.reduceEqDiff] <;> rfl)).trans rfl) ?_
                    refine o_rd (r_pick (t := false) (by simp only [ev, envOf, val_set, ofValue, ofCell, ↓reduceIte, Nat.reduceEqDiff] <;> rfl) (fun h => by cases h) (fun _ => (by simp only [ev, envOf, val_set, ofValue, ofCell, ↓reduceIte, Nat.reduceEqDiff] <;> rfl))) rfl ((wanted_of (b := false) rfl rfl rfl (by simp only [val_set, ↓reduceIte, Nat.reduceEqDiff] <;> rfl)).trans rfl) ?_
                    refine o_rd (r_pick (t := false) (by simp only [ev, envOf, val_set, ofValue, ofCell, ↓reduceIte, Nat.reduceEqDiff] <;> rfl) (fun h => by cases h) (fun _ => (by simp only [ev, envOf, val_set, ofValue, ofCell, ↓reduceIte, Nat.reduceEqDiff] <;> rfl))) rfl rfl ?_
                    refine o_rd (r_assign (by simp only [ev, envOf, val_set, ofValue, ofCell, ↓reduceIte, Nat.reduceEqDiff] <;> rfl)) rfl rfl ?_
                    refine o_nil ?_
                    exact ⟨_, H1, rfl, (by simp only [val_set, ↓reduceIte, Nat.reduceEqDiff] <;> rfl), (by simp only [val_set, ↓reduceIte, Nat.reduceEqDiff] <;> rfl), (by simp only [val_set, ↓reduceIte, Nat.reduceEqDiff]; first | (simp [vhead, hc2, hc3, hc6, hc7, hc9, hc11, hg12, hg13]; done) | (refine congrArg AV.bool ?_; unfold vhead; repeat' split) <;> first | (exfalso; omega) | (rw [Bool.eq_iff_iff]; simp only [decide_eq_true_eq, Bool.and_eq_true, Bool.or_eq_true, Bool.false_eq_true, reduceCtorEq, iff_true, iff_false, true_iff, false_iff]; omega)), W1, E1, A1⟩
                  · have hg13 := dec_t hg13
                    refine o_rd (r_move (by simp only [ev, envOf, val_set, ofValue, ofCell, ↓reduceIte, Nat.reduceEqDiff] <;> rfl)) rfl ((wanted_of (b := true) rfl rfl rfl (by simp only [val_set, ↓reduceIte, Nat.reduceEqDiff] <;> rfl)).trans rfl) ?_
                    refine o_rd (r_pick (t := true) (by simp only [ev, envOf, val_set, ofValue, ofCell, ↓reduceIte, Nat.reduceEqDiff] <;> rfl) (fun _ => (by simp only [ev, envOf, val_set, ofValue, ofCell, ↓reduceIte, Nat.reduceEqDiff] <;> rfl)) (fun h => by cases h)) rfl ((wanted_of (b := false) rfl rfl rfl (by simp only [val_set, ↓reduceIte, Nat.reduceEqDiff] <;> rfl)).trans rfl) ?_
                    refine o_rd (r_pick (t := false) (by simp only [ev, envOf, val_set, ofValue, ofCell, ↓reduceIte, Nat.reduceEqDiff] <;> rfl) (fun h => by cases h) (fun _ => (by simp only [ev, envOf, val_set, ofValue, ofCell, ↓reduceIte, Nat.reduceEqDiff] <;> rfl))) rfl rfl ?_
                    refine o_rd (r_assign (by simp only [ev, envOf, val_set, ofValue, ofCell, ↓reduceIte, Nat.reduceEqDiff] <;> rfl)) rfl rfl ?_
                    refine o_nil ?_
                    exact ⟨_, H1, rfl, (by simp only [val_set, ↓reduceIte, Nat.reduceEqDiff] <;> rfl), (by simp only [val_set, ↓reduceIte, Nat.reduceEqDiff] <;> rfl), (by simp only [val_set, ↓reduceIte, Nat.reduceEqDiff]; first | (simp [vhead, hc2, hc3, hc6, hc7, hc9, hc11, hg12, hg13]; done) | (refine congrArg AV.bool ?_; unfold vhead; repeat' split) <;> first | (exfalso; omega) | (rw [Bool.eq_iff_iff]; simp only [decide_eq_true_eq, Bool.and_eq_true, Bool.or_eq_true, Bool.false_eq_true, reduceCtorEq, iff_true, iff_false, true_iff, false_iff]; omega)), W1, E1, A1⟩
                · have hg12 := dec_t hg12
                  refine o_sk rfl ((wanted_of (b := true) rfl rfl rfl (by simp only [val_set, ↓reduceIte, Nat.reduceEqDiff] <;> rfl)).trans rfl) ?_
                  refine o_sk rfl ((wanted_of (b := true) rfl rfl rfl (by simp only [val_set, ↓reduceIte, Nat.reduceEqDiff] <;> rfl)).trans rfl) ?_
                  refine o_sk rfl ((wanted_of (b := true) rfl rfl rfl (by simp only [val_set, ↓reduceIte, Nat.reduceEqDiff] <;> rfl)).trans rfl) ?_
                  refine o_sk rfl ((wanted_of (b := true) rfl rfl rfl (by simp only [val_set, ↓reduceIte, Nat.reduceEqDiff] <;> rfl)).trans rfl) ?_
                  refine o_sk rfl (wanted_no rfl rfl rfl (by simp only [val_set, ↓reduceIte, Nat.reduceEqDiff] <;> rfl)) ?_
                  refine o_sk rfl ((wanted_of (b := true) rfl rfl rfl (by simp only [val_set, ↓reduceIte, Nat.reduceEqDiff] <;> rfl)).trans rfl) ?_
                  refine o_rd (r_pick (t := true) (by simp only [ev, envOf, val_set, ofValue, ofCell, ↓reduceIte, Nat.reduceEqDiff] <;> rfl) (fun _ => (by simp only [ev, envOf, val_set, ofValue, ofCell, ↓reduceIte, Nat.reduceEqDiff] <;> rfl)) (fun h => by cases h)) rfl rfl ?_
                  refine o_rd (r_assign (by simp only [ev, envOf, val_set, ofValue, ofCell, ↓reduceIte, Nat.reduceEqDiff] <;> rfl)) rfl rfl ?_
                  refine o_nil ?_
                  exact ⟨_, H1, rfl, (by simp only [val_set, ↓reduceIte, Nat.reduceEqDiff] <;> rfl), (by simp only [val_set, ↓reduceIte, Nat.reduceEqDiff] <;> rfl), (by simp only [val_set, ↓reduceIte, Nat.reduceEqDiff]; first | (simp [vhead, hc2, hc3, hc6, hc7, hc9, hc11, hg12]; done) | (refine congrArg AV.bool ?_; unfold vhead; repeat' split) <;> first | (exfalso; omega) | (rw [Bool.eq_iff_iff]; simp only [decide_eq_true_eq, Bool.and_eq_true, Bool.or_eq_true, Bool.false_eq_true, reduceCtorEq, iff_true, iff_false, true_iff, false_iff]; omega)), W1, E1, A1⟩
              · have hc11 := dec_f hc11
                refine w_skip ?_
                exact ⟨_, H1, rfl, (by simp only [val_set, ↓reduceIte, Nat.reduceEqDiff] <;> rfl), (by simp only [val_set, ↓reduceIte, Nat.reduceEqDiff] <;> rfl), (by simp only [val_set, ↓reduceIte, Nat.reduceEqDiff]; first | (simp [vhead, hc2, hc3, hc6, hc7, hc9, hc11]; done) | (refine congrArg AV.bool ?_; unfold vhead; repeat' split) <;> first | (exfalso; omega) | (rw [Bool.eq_iff_iff]; simp only [decide_eq_true_eq, Bool.and_eq_true, Bool.or_eq_true, Bool.false_eq_true, reduceCtorEq, iff_true, iff_false, true_iff, false_iff]; omega)), W1, E1, A1⟩
  · intro s hi
    obtain ⟨e, H14, rfl, v1, v2, v4, W14, E14, A1⟩ := hi
    have l14_0 := W14.lt A1
    refine w_seq ?_
    refine w_seq ?_
    refine w_region ?_
    refine o_rd (r_fieldAddr Ty.fo24_2 (by simp only [ev, envOf, val_set, ofValue, ofCell, ↓reduceIte, Nat.reduceEqDiff, v1, v2, v4] <;> rfl)) rfl rfl ?_
    refine o_rd (r_load1 (v := sa) Ty.agg22 (by simp only [ev, envOf, val_set, ofValue, ofCell, ↓reduceIte, Nat.reduceEqDiff, v1, v2, v4] <;> rfl) (read_mt A1 (Nat.le_of_ble_eq_true rfl))) rfl rfl ?_
    refine o_rd (r_len (n := la.length) Try.underlying22 (by simp only [ev, envOf, val_set, ofValue, ofCell, ↓reduceIte, Nat.reduceEqDiff, v1, v2, v4] <;> rfl) h1.lenOf) rfl rfl ?_
    refine o_rd (r_move (by simp only [ev, envOf, val_set, ofValue, ofCell, ↓reduceIte, Nat.reduceEqDiff, v1, v2, v4] <;> rfl)) rfl rfl ?_
    refine o_nil ?_
    refine w_block ?_
    refine w_loop (fun m s => ∃ (e : Env) (H : AH) (i : Nat), s = ⟨e, H, []⟩ ∧ e.val 2 = .bool (false) ∧ e.val 4 = .bool (vhead ka na la.length && okVs (la.take i)) ∧ e.val 67 = sa ∧ e.val 68 = .int .i64 (((la.length : Nat) : Int)) ∧ e.val 69 = .int .i64 (((i : Nat) : Int)) ∧ Wf H ∧ Ext H0 H ∧ H.at (H0.n) = some (.row [.int .i64 (ka), .int .i64 (na), sa] 24 false none) ∧ (i + m = la.length)) (la.length) ⟨_, H14, 0, rfl, (by simp only [val_set, ↓reduceIte, Nat.reduceEqDiff, v1, v2, v4] <;> rfl), (by simp only [val_set, ↓reduceIte, Nat.reduceEqDiff, v4]; simp [okVs]), (by simp only [val_set, ↓reduceIte, Nat.reduceEqDiff, v1, v2, v4] <;> rfl), (by simp only [val_set, ↓reduceIte, Nat.reduceEqDiff, v1, v2, v4] <;> rfl), (by simp only [val_set, ↓reduceIte, Nat.reduceEqDiff, v1, v2, v4] <;> rfl), W14, E14, A1, by omega⟩ ?_
    intro m s hi
    obtain ⟨e, H15, i, rfl, v2, v4, v67, v68, v69, W15, E15, A1, hm⟩ := hi
    have l15_0 := W15.lt A1
    refine w_seq ?_
    refine w_region ?_
    refine o_rd (r_lt (a := ((i : Nat) : Int)) (b := ((la.length : Nat) : Int)) (by simp only [ev, envOf, val_set, ofValue, ofCell, ↓reduceIte, Nat.reduceEqDiff, v2, v4, v67, v68, v69] <;> rfl) (by simp only [ev, envOf, val_set, ofValue, ofCell, ↓reduceIte, Nat.reduceEqDiff, v2, v4, v67, v68, v69] <;> rfl)) rfl rfl ?_
    refine o_nil ?_
    refine w_seq ?_
    refine w_cond (by simp only [ev, envOf, val_set, ofValue, ofCell, ↓reduceIte, Nat.reduceEqDiff, v2, v4, v67, v68, v69] <;> rfl) (fun hc16 => ?_) (fun hc16 => ?_)
    · have hc16 := dec_t hc16
      refine w_skip ?_
      refine w_seq ?_
      refine w_block ?_
      refine w_seq ?_
      refine w_region ?_
      have hi1 : i < la.length := by omega
      obtain ⟨loc1, off1, cap1, ce1, rfl, hr1, hv1⟩ := h1.get hi1
      obtain ⟨xk, xn, xl, xs, rfl, hxe, hxs⟩ := hv1.inv
      refine o_rd (r_indexAddr Try.underlying22 Ty.csz24 (by simp only [ev, envOf, val_set, ofValue, ofCell, ↓reduceIte, Nat.reduceEqDiff, v2, v4, v67, v68, v69] <;> rfl) (by simp only [ev, envOf, val_set, ofValue, ofCell, ↓reduceIte, Nat.reduceEqDiff, v2, v4, v67, v68, v69] <;> rfl) hi1) rfl rfl ?_
      refine o_rd (r_loadN Ty.agg24 Ty.csz24 (by simp only [ev, envOf, val_set, ofValue, ofCell, ↓reduceIte, Nat.reduceEqDiff, v2, v4, v67, v68, v69] <;> rfl) (E15.read hr1)) rfl rfl ?_
      refine o_nw W15 (a_alloc Ty.zero24) rfl rfl rfl (by simp) ?_; intro H17 n17 W17 X17 A17
      have A17 : H17.at H15.n = some (.row [.int .i64 (0), .int .i64 (0), .nils] 24 false none) := A17
      have E17 := E15.trans X17
      have A1 := X17.keep _ _ A1
      refine o_st W17 (by simp only [ev, envOf, val_set, ofValue, ofCell, ↓reduceIte, Nat.reduceEqDiff, v2, v4, v67, v68, v69] <;> rfl) (by simp only [ev, envOf, val_set, ofValue, ofCell, ↓reduceIte, Nat.reduceEqDiff, v2, v4, v67, v68, v69] <;> rfl) A17 Ty.csz24 rfl (Nat.le_of_ble_eq_true rfl) (by cases hxs <;> rfl) rfl rfl ?_; intro H18 n18 W18 A18 K18
      have A18 : H18.at H15.n = some (.row [.int .i64 (xk), .int .i64 (xn), xs] 24 false none) := A18
      have E18 := Ext.put W0 E17 (by have := E17.n; omega) K18 n18 W18
      have A1 := K18.own A1 (by omega)
      refine o_nil ?_
      refine w_region ?_
      refine o_rd (r_move (by simp only [ev, envOf, val_set, ofValue, ofCell, ↓reduceIte, Nat.reduceEqDiff, v2, v4, v67, v68, v69] <;> rfl)) rfl rfl ?_
      refine o_rd (r_move (by simp only [ev, envOf, val_set, ofValue, ofCell, ↓reduceIte, Nat.reduceEqDiff, v2, v4, v67, v68, v69] <;> rfl)) rfl rfl ?_
      cases hg19 : (vhead ka na la.length && okVs (la.take i) : Bool)
      · skip
        refine o_sk rfl ((wanted_of (b := false) rfl rfl rfl (by simp only [val_set, ↓reduceIte, Nat.reduceEqDiff, v2, v4, v67, v68, v69] <;> rfl)).trans rfl) ?_
        refine o_sk rfl ((wanted_of (b := false) rfl rfl rfl (by simp only [val_set, ↓reduceIte, Nat.reduceEqDiff, v2, v4, v67, v68, v69] <;> rfl)).trans rfl) ?_
        refine o_rd (r_pick (t := false) (by simp only [ev, envOf, val_set, ofValue, ofCell, ↓reduceIte, Nat.reduceEqDiff, v2, v4, v67, v68, v69] <;> rfl) (fun h => by cases h) (fun _ => (by simp only [ev, envOf, val_set, ofValue, ofCell, ↓reduceIte, Nat.reduceEqDiff, v2, v4, v67, v68, v69] <;> rfl))) rfl rfl ?_
        refine o_rd (r_assign (by simp only [ev, envOf, val_set, ofValue, ofCell, ↓reduceIte, Nat.reduceEqDiff, v2, v4, v67, v68, v69] <;> rfl)) rfl rfl ?_
        refine o_nil ?_
        refine w_region ?_
        refine o_rd (r_addE (a := ((i : Nat) : Int)) (b := 1) (c := ((i + 1 : Nat) : Int)) (by simp only [ev, envOf, val_set, ofValue, ofCell, ↓reduceIte, Nat.reduceEqDiff, v2, v4, v67, v68, v69] <;> rfl) (by simp only [ev, envOf, val_set, ofValue, ofCell, ↓reduceIte, Nat.reduceEqDiff, v2, v4, v67, v68, v69] <;> rfl) (by omega) (by omega) (by omega)) rfl rfl ?_
        refine o_rd (r_move (by simp only [ev, envOf, val_set, ofValue, ofCell, ↓reduceIte, Nat.reduceEqDiff, v2, v4, v67, v68, v69] <;> rfl)) rfl rfl ?_
        refine o_nil ?_
        exact ⟨m - 1, by omega, _, H18, i + 1, rfl, (by simp only [val_set, ↓reduceIte, Nat.reduceEqDiff, v2, v4, v67, v68, v69] <;> rfl), (by simp only [val_set, ↓reduceIte, Nat.reduceEqDiff]; rw [okVs_take hi1, ← Bool.and_assoc]; simp [hc16, hg19]), (by simp only [val_set, ↓reduceIte, Nat.reduceEqDiff, v2, v4, v67, v68, v69] <;> rfl), (by simp only [val_set, ↓reduceIte, Nat.reduceEqDiff, v2, v4, v67, v68, v69] <;> rfl), (by simp only [val_set, ↓reduceIte, Nat.reduceEqDiff, v2, v4, v67, v68, v69] <;> rfl), W18, E18, A1, by omega⟩
      · skip
        refine o_rd (r_loadN (cs := [.int .i64 (xk), .int .i64 (xn), xs]) Ty.agg24 Ty.csz24 (by simp only [ev, envOf, val_set, ofValue, ofCell, ↓reduceIte, Nat.reduceEqDiff, v2, v4, v67, v68, v69] <;> rfl) (read_mt A18 (Nat.le_of_ble_eq_true rfl))) rfl ((wanted_of (b := true) rfl rfl rfl (by simp only [val_set, ↓reduceIte, Nat.reduceEqDiff, v2, v4, v67, v68, v69] <;> rfl)).trans rfl) ?_
        refine o_cl rfl rfl (by simp only [evs, ev, envOf, val_set, ofValue, ofCell, ↓reduceIte, Nat.reduceEqDiff, v2, v4, v67, v68, v69] <;> rfl) rfl (ih _ (List.getElem_mem hi1) _ W18 _ (hv1.ext E18)) rfl ((wanted_of (b := true) rfl rfl rfl (by simp only [val_set, ↓reduceIte, Nat.reduceEqDiff, v2, v4, v67, v68, v69] <;> rfl)).trans rfl) ?_; rintro _ H20 ⟨rfl, X20⟩
        have W20 := X20.wf; have E20 := E18.trans X20
        have A1 := X20.keep _ _ A1
        have A18 := X20.keep _ _ A18
        have n20 := X20.n
        refine o_rd (r_pick (t := true) (by simp only [ev, envOf, val_set, ofValue, ofCell, ↓reduceIte, Nat.reduceEqDiff, v2, v4, v67, v68, v69] <;> rfl) (fun _ => (by simp only [ev, envOf, val_set, ofValue, ofCell, ↓reduceIte, Nat.reduceEqDiff, v2, v4, v67, v68, v69] <;> rfl)) (fun h => by cases h)) rfl rfl ?_
        refine o_rd (r_assign (by simp only [ev, envOf, val_set, ofValue, ofCell, ↓reduceIte, Nat.reduceEqDiff, v2, v4, v67, v68, v69] <;> rfl)) rfl rfl ?_
        refine o_nil ?_
        refine w_region ?_
        refine o_rd (r_addE (a := ((i : Nat) : Int)) (b := 1) (c := ((i + 1 : Nat) : Int)) (by simp only [ev, envOf, val_set, ofValue, ofCell, ↓reduceIte, Nat.reduceEqDiff, v2, v4, v67, v68, v69] <;> rfl) (by simp only [ev, envOf, val_set, ofValue, ofCell, ↓reduceIte, Nat.reduceEqDiff, v2, v4, v67, v68, v69] <;> rfl) (by omega) (by omega) (by omega)) rfl rfl ?_
        refine o_rd (r_move (by simp only [ev, envOf, val_set, ofValue, ofCell, ↓reduceIte, Nat.reduceEqDiff, v2, v4, v67, v68, v69] <;> rfl)) rfl rfl ?_
        refine o_nil ?_
        exact ⟨m - 1, by omega, _, H20, i + 1, rfl, (by simp only [val_set, ↓reduceIte, Nat.reduceEqDiff, v2, v4, v67, v68, v69] <;> rfl), (by simp only [val_set, ↓reduceIte, Nat.reduceEqDiff]; rw [okVs_take hi1, ← Bool.and_assoc]; simp [hc16, hg19]), (by simp only [val_set, ↓reduceIte, Nat.reduceEqDiff, v2, v4, v67, v68, v69] <;> rfl), (by simp only [val_set, ↓reduceIte, Nat.reduceEqDiff, v2, v4, v67, v68, v69] <;> rfl), (by simp only [val_set, ↓reduceIte, Nat.reduceEqDiff, v2, v4, v67, v68, v69] <;> rfl), W20, E20, A1, by omega⟩
    · have hc16 := dec_f hc16
      refine w_exit (blk_exit ?_)
      refine w_seq ?_
      refine w_region ?_
      refine o_rd (r_move (by simp only [ev, envOf, val_set, ofValue, ofCell, ↓reduceIte, Nat.reduceEqDiff, v2, v4, v67, v68, v69] <;> rfl)) rfl rfl ?_
      refine o_rd (r_assign (by simp only [ev, envOf, val_set, ofValue, ofCell, ↓reduceIte, Nat.reduceEqDiff, v2, v4, v67, v68, v69] <;> rfl)) rfl rfl ?_
      refine o_nil ?_
      refine w_ret ⟨.inr rfl, rfl, .bool (vhead ka na la.length && okVs (la.take i)), (show resultA Try.prog [.tmp 2] _ = _ by simp only [resultA, resultsA, envOf, val_set, ↓reduceIte, Nat.reduceEqDiff, Option.map_some, v2, v4, v67, v68, v69] <;> rfl), ?_⟩
      refine ⟨?_, E15⟩; have hil : i = la.length := (by omega); subst hil; rw [List.take_length]; rfl
theorem valid_fin (ho : NoOrcBut [9, 35, 36] orc) (x : V) : ∀ (H : AH), Wf H → ∀ (a : List AV), VA H x a → Fin Try.prog orc 13 [.agg a] H (fun r H' => r = .bool (okV x) ∧ Ext H H') := by
  refine V.ind (p := fun x => ∀ (H : AH), Wf H → ∀ (a : List AV), VA H x a → Fin Try.prog orc 13 [.agg a] H (fun r H' => r = .bool (okV x) ∧ Ext H H')) ?_ x
  intro k n l ih H W a ha
  cases ha with | mk _ _ _ s h1 =>
  exact valid_step ho W k n l s h1 ih
end Go.Proofs.Ytenfjdkeikjhlaa.Vs
