/-
  Whether nodes are beyond the bound.
-/
import Derived.Test.YtpdphdbphhaekaaDoorTree9
set_option autoImplicit false
set_option linter.unusedVariables false
set_option linter.unusedSimpArgs false
namespace Go.Proofs.YtpdphdbphhaekaaDoor.Vs
open Go.VI Go.Proofs
variable {orc : CallF}
def sumF (n k : Int) : Int := if 2147483647 < n ∨ 2147483647 - n < k then 2147483648 else n + k
theorem sumF_b {n k : Int} (h : n ≤ 2147483648) (hk : 0 ≤ k) : n ≤ sumF n k ∧ sumF n k ≤ 2147483648 := by
  unfold sumF; split <;> omega
theorem sumF_1 {n : Int} (h : n ≤ 2147483647) : n + 1 ≤ sumF n 1 := by
  unfold sumF; split <;> omega
set_option maxRecDepth 100000 in
set_option maxHeartbeats 4000000 in
theorem more_fin (ho : NoOrcBut [8, 64, 65] orc) {H0 : AH} (W0 : Wf H0) (n k : Int) (hn : 0 ≤ n) (hn2 : n ≤ 2147483648) (hk : 0 ≤ k) (hk2 : k ≤ 4611686018427387904) : Fin Tryd.prog orc 20 [.int .i64 (n), .int .i64 (k)] H0 (fun r H' => r = .int .i64 (sumF n k) ∧ Ext H0 H') := by
  have E0 := Ext.refl W0
  refine fin_of Tryd.func20 rfl (by rw [Tryd.ntmps20]; simp) (ho _ rfl _ _) ?_
  rw [Tryd.ntmps20]
  refine w_seq ?_
  refine w_region ?_
  refine o_rd (r_assign (by simp only [ev, envOf, val_set, ofValue, ofCell, ↓reduceIte, Nat.reduceEqDiff] <;> rfl)) rfl rfl ?_
  refine o_nil ?_
  refine w_seq ?_
  refine w_seq ?_
  refine w_region ?_
  refine o_rd (r_move (by simp only [ev, envOf, val_set, ofValue, ofCell, ↓reduceIte, Nat.reduceEqDiff] <;> rfl)) rfl rfl ?_
  refine o_rd (r_gt (a := n) (b := 2147483647) (by simp only [ev, envOf, val_set, ofValue, ofCell, ↓reduceIte, Nat.reduceEqDiff] <;> rfl) (by simp only [ev, envOf, val_set, ofValue, ofCell, ↓reduceIte, Nat.reduceEqDiff] <;> rfl)) rfl rfl ?_
  refine o_rd (r_move (by simp only [ev, envOf, val_set, ofValue, ofCell, ↓reduceIte, Nat.reduceEqDiff] <;> rfl)) rfl rfl ?_
  cases hg1 : (decide (2147483647 < n) : Bool)
  · have hg1 := dec_f hg1
    refine o_rd (r_move (by simp only [ev, envOf, val_set, ofValue, ofCell, ↓reduceIte, Nat.reduceEqDiff] <;> rfl)) rfl ((wanted_of (b := false) rfl rfl rfl (by simp only [val_set, ↓reduceIte, Nat.reduceEqDiff] <;> rfl)).trans rfl) ?_
    refine o_rd (r_move (by simp only [ev, envOf, val_set, ofValue, ofCell, ↓reduceIte, Nat.reduceEqDiff] <;> rfl)) rfl ((wanted_of (b := false) rfl rfl rfl (by simp only [val_set, ↓reduceIte, Nat.reduceEqDiff] <;> rfl)).trans rfl) ?_
    refine o_rd (r_subE (a := 2147483647) (b := n) (c := 2147483647 - n) (by simp only [ev, envOf, val_set, ofValue, ofCell, ↓reduceIte, Nat.reduceEqDiff] <;> rfl) (by simp only [ev, envOf, val_set, ofValue, ofCell, ↓reduceIte, Nat.reduceEqDiff] <;> rfl) (by omega) (by omega) (by omega)) rfl ((wanted_of (b := false) rfl rfl rfl (by simp only [val_set, ↓reduceIte, Nat.reduceEqDiff] <;> rfl)).trans rfl) ?_
    refine o_rd (r_gt (a := k) (b := 2147483647 - n) (by simp only [ev, envOf, val_set, ofValue, ofCell, ↓reduceIte, Nat.reduceEqDiff] <;> rfl) (by simp only [ev, envOf, val_set, ofValue, ofCell, ↓reduceIte, Nat.reduceEqDiff] <;> rfl)) rfl ((wanted_of (b := false) rfl rfl rfl (by simp only [val_set, ↓reduceIte, Nat.reduceEqDiff] <;> rfl)).trans rfl) ?_
    refine o_rd (r_pick (t := false) (by simp only [ev, envOf, val_set, ofValue, ofCell, ↓reduceIte, Nat.reduceEqDiff] <;> rfl) (fun h => by cases h) (fun _ => (by simp only [ev, envOf, val_set, ofValue, ofCell, ↓reduceIte, Nat.reduceEqDiff] <;> rfl))) rfl rfl ?_
    refine o_nil ?_
    refine w_cond (by simp only [ev, envOf, val_set, ofValue, ofCell, ↓reduceIte, Nat.reduceEqDiff] <;> rfl) (fun hB2 => ?_) (fun hB2 => ?_)
    · have hc2 := dec_t hB2
      refine w_seq ?_
      refine w_region ?_
      refine o_rd (r_assign (by simp only [ev, envOf, val_set, ofValue, ofCell, ↓reduceIte, Nat.reduceEqDiff] <;> rfl)) rfl rfl ?_
      refine o_nil ?_
      refine w_ret ⟨.inr rfl, rfl, .int .i64 (2147483648), (show resultA Tryd.prog [.tmp 4] _ = _ by simp only [resultA, resultsA, envOf, val_set, ↓reduceIte, Nat.reduceEqDiff, Option.map_some] <;> rfl), ?_⟩
      try dsimp only
      exact ⟨congrArg (AV.int .i64) (by unfold sumF; first | rw [if_pos (by omega)] | rw [if_neg (by omega)]), E0⟩
    · have hc2 := dec_f hB2
      refine w_skip ?_
      refine w_seq ?_
      refine w_region ?_
      refine o_rd (r_move (by simp only [ev, envOf, val_set, ofValue, ofCell, ↓reduceIte, Nat.reduceEqDiff] <;> rfl)) rfl rfl ?_
      refine o_rd (r_move (by simp only [ev, envOf, val_set, ofValue, ofCell, ↓reduceIte, Nat.reduceEqDiff] <;> rfl)) rfl rfl ?_
      refine o_rd (r_addE (a := n) (b := k) (c := n + k) (by simp only [ev, envOf, val_set, ofValue, ofCell, ↓reduceIte, Nat.reduceEqDiff] <;> rfl) (by simp only [ev, envOf, val_set, ofValue, ofCell, ↓reduceIte, Nat.reduceEqDiff] <;> rfl) (by omega) (by omega) (by omega)) rfl rfl ?_
      refine o_rd (r_assign (by simp only [ev, envOf, val_set, ofValue, ofCell, ↓reduceIte, Nat.reduceEqDiff] <;> rfl)) rfl rfl ?_
      refine o_nil ?_
      refine w_ret ⟨.inr rfl, rfl, .int .i64 (n + k), (show resultA Tryd.prog [.tmp 4] _ = _ by simp only [resultA, resultsA, envOf, val_set, ↓reduceIte, Nat.reduceEqDiff, Option.map_some] <;> rfl), ?_⟩
      try dsimp only
      exact ⟨congrArg (AV.int .i64) (by unfold sumF; first | rw [if_pos (by omega)] | rw [if_neg (by omega)]), E0⟩
  · have hg1 := dec_t hg1
    refine o_sk rfl ((wanted_of (b := true) rfl rfl rfl (by simp only [val_set, ↓reduceIte, Nat.reduceEqDiff] <;> rfl)).trans rfl) ?_
    refine o_sk rfl ((wanted_of (b := true) rfl rfl rfl (by simp only [val_set, ↓reduceIte, Nat.reduceEqDiff] <;> rfl)).trans rfl) ?_
    refine o_sk rfl ((wanted_of (b := true) rfl rfl rfl (by simp only [val_set, ↓reduceIte, Nat.reduceEqDiff] <;> rfl)).trans rfl) ?_
    refine o_sk rfl ((wanted_of (b := true) rfl rfl rfl (by simp only [val_set, ↓reduceIte, Nat.reduceEqDiff] <;> rfl)).trans rfl) ?_
    refine o_rd (r_pick (t := true) (by simp only [ev, envOf, val_set, ofValue, ofCell, ↓reduceIte, Nat.reduceEqDiff] <;> rfl) (fun _ => (by simp only [ev, envOf, val_set, ofValue, ofCell, ↓reduceIte, Nat.reduceEqDiff] <;> rfl)) (fun h => by cases h)) rfl rfl ?_
    refine o_nil ?_
    refine w_cond (t := true) (by simp only [ev, envOf, val_set, ofValue, ofCell, ↓reduceIte, Nat.reduceEqDiff] <;> rfl) (fun _ => ?_) (fun h => by cases h)
    refine w_seq ?_
    refine w_region ?_
    refine o_rd (r_assign (by simp only [ev, envOf, val_set, ofValue, ofCell, ↓reduceIte, Nat.reduceEqDiff] <;> rfl)) rfl rfl ?_
    refine o_nil ?_
    refine w_ret ⟨.inr rfl, rfl, .int .i64 (2147483648), (show resultA Tryd.prog [.tmp 4] _ = _ by simp only [resultA, resultsA, envOf, val_set, ↓reduceIte, Nat.reduceEqDiff, Option.map_some] <;> rfl), ?_⟩
    try dsimp only
    exact ⟨congrArg (AV.int .i64) (by unfold sumF; first | rw [if_pos (by omega)] | rw [if_neg (by omega)]), E0⟩
set_option maxRecDepth 100000 in
set_option maxHeartbeats 4000000 in
theorem beyond_fin (ho : NoOrcBut [8, 64, 65] orc) {H0 : AH} (W0 : Wf H0) (l : List ND) (sl : AV) (hL : NS H0 l sl) (hnm : ∀ j, (h : j < l.length) → l[j].nm.length ≤ 4611686018427387904) : Fin Tryd.prog orc 11 [sl] H0 (fun r H' => ∃ b, r = .bool b ∧ (b = false → l.length ≤ 2147483647) ∧ Ext H0 H') := by
  have E0 := Ext.refl W0
  have hlb := hL.bound
  refine fin_of Tryd.func11 rfl (by rw [Tryd.ntmps11]; simp) (ho _ rfl _ _) ?_
  rw [Tryd.ntmps11]
  refine w_seq ?_
  refine w_region ?_
  refine o_rd (r_assign (by simp only [ev, envOf, val_set, ofValue, ofCell, ↓reduceIte, Nat.reduceEqDiff] <;> rfl)) rfl rfl ?_
  refine o_nil ?_
  refine w_seq ?_
  refine w_region ?_
  refine o_rd (r_assign (by simp only [ev, envOf, val_set, ofValue, ofCell, ↓reduceIte, Nat.reduceEqDiff] <;> rfl)) rfl rfl ?_
  refine o_nil ?_
  refine w_seq ?_
  refine w_seq ?_
  refine w_region ?_
  refine o_rd (r_assign (by simp only [ev, envOf, val_set, ofValue, ofCell, ↓reduceIte, Nat.reduceEqDiff] <;> rfl)) rfl rfl ?_
  refine o_nil ?_
  refine w_block ?_
  refine w_loop (fun m s => ∃ (e : Env) (H : AH) (i : Nat) (n : Int), s = ⟨e, H, []⟩ ∧ e.val 0 = sl ∧ e.val 2 = .bool (false) ∧ e.val 3 = .int .i64 (n) ∧ e.val 4 = .int .i64 (((i : Nat) : Int)) ∧ Wf H ∧ Ext H0 H ∧ (i + m = l.length) ∧ (i ≤ n ∧ n ≤ 2147483648 ∧ 0 ≤ n)) (l.length) ⟨_, H0, 0, 0, rfl, (by simp only [val_set, ↓reduceIte, Nat.reduceEqDiff] <;> rfl), (by simp only [val_set, ↓reduceIte, Nat.reduceEqDiff] <;> rfl), (by simp only [val_set, ↓reduceIte, Nat.reduceEqDiff] <;> rfl), (by simp only [val_set, ↓reduceIte, Nat.reduceEqDiff] <;> rfl), W0, E0, (by omega), (by omega)⟩ ?_
  intro m s hi
  obtain ⟨e, H1, i, n, rfl, v0, v2, v3, v4, W1, E1, him, hin⟩ := hi
  refine w_seq ?_
  refine w_seq ?_
  refine w_region ?_
  refine o_rd (r_move (by simp only [ev, envOf, val_set, ofValue, ofCell, ↓reduceIte, Nat.reduceEqDiff, v0, v2, v3, v4] <;> rfl)) rfl rfl ?_
  refine o_rd (r_move (by simp only [ev, envOf, val_set, ofValue, ofCell, ↓reduceIte, Nat.reduceEqDiff, v0, v2, v3, v4] <;> rfl)) rfl rfl ?_
  refine o_rd (r_len (n := l.length) Tryd.underlying28 (by simp only [ev, envOf, val_set, ofValue, ofCell, ↓reduceIte, Nat.reduceEqDiff, v0, v2, v3, v4] <;> rfl) hL.lenOf) rfl rfl ?_
  refine o_rd (r_lt (a := ((i : Nat) : Int)) (b := ((l.length : Nat) : Int)) (by simp only [ev, envOf, val_set, ofValue, ofCell, ↓reduceIte, Nat.reduceEqDiff, v0, v2, v3, v4] <;> rfl) (by simp only [ev, envOf, val_set, ofValue, ofCell, ↓reduceIte, Nat.reduceEqDiff, v0, v2, v3, v4] <;> rfl)) rfl rfl ?_
  refine o_rd (r_move (by simp only [ev, envOf, val_set, ofValue, ofCell, ↓reduceIte, Nat.reduceEqDiff, v0, v2, v3, v4] <;> rfl)) rfl rfl ?_
  cases hg2 : (decide (((i : Nat) : Int) < ((l.length : Nat) : Int)) : Bool)
  · have hg2 := dec_f hg2
    refine o_sk rfl ((wanted_of (b := false) rfl rfl rfl (by simp only [val_set, ↓reduceIte, Nat.reduceEqDiff, v0, v2, v3, v4] <;> rfl)).trans rfl) ?_
    refine o_sk rfl ((wanted_of (b := false) rfl rfl rfl (by simp only [val_set, ↓reduceIte, Nat.reduceEqDiff, v0, v2, v3, v4] <;> rfl)).trans rfl) ?_
    refine o_rd (r_pick (t := false) (by simp only [ev, envOf, val_set, ofValue, ofCell, ↓reduceIte, Nat.reduceEqDiff, v0, v2, v3, v4] <;> rfl) (fun h => by cases h) (fun _ => (by simp only [ev, envOf, val_set, ofValue, ofCell, ↓reduceIte, Nat.reduceEqDiff, v0, v2, v3, v4] <;> rfl))) rfl rfl ?_
    refine o_nil ?_
    refine w_cond (t := false) (by simp only [ev, envOf, val_set, ofValue, ofCell, ↓reduceIte, Nat.reduceEqDiff, v0, v2, v3, v4] <;> rfl) (fun h => by cases h) (fun _ => ?_)
    first | refine w_exit (blk_exit ?_) | refine w_exit (show (0 = 0 → _) ∧ (0 ≠ 0 → _) from ⟨fun _ => ?_, fun c => absurd rfl c⟩)
    refine w_seq ?_
    refine w_region ?_
    refine o_rd (r_move (by simp only [ev, envOf, val_set, ofValue, ofCell, ↓reduceIte, Nat.reduceEqDiff, v0, v2, v3, v4] <;> rfl)) rfl rfl ?_
    refine o_rd (r_gt (a := n) (b := 2147483647) (by simp only [ev, envOf, val_set, ofValue, ofCell, ↓reduceIte, Nat.reduceEqDiff, v0, v2, v3, v4] <;> rfl) (by simp only [ev, envOf, val_set, ofValue, ofCell, ↓reduceIte, Nat.reduceEqDiff, v0, v2, v3, v4] <;> rfl)) rfl rfl ?_
    refine o_rd (r_assign (by simp only [ev, envOf, val_set, ofValue, ofCell, ↓reduceIte, Nat.reduceEqDiff, v0, v2, v3, v4] <;> rfl)) rfl rfl ?_
    refine o_nil ?_
    refine w_ret ⟨.inr rfl, rfl, .bool (decide (2147483647 < n)), (show resultA Tryd.prog [.tmp 2] _ = _ by simp only [resultA, resultsA, envOf, val_set, ↓reduceIte, Nat.reduceEqDiff, Option.map_some, v0, v2, v3, v4] <;> rfl), ?_⟩
    try dsimp only
    exact ⟨_, rfl, fun hb => by have := of_decide_eq_false hb; omega, E1⟩
  · have hg2 := dec_t hg2
    refine o_rd (r_move (by simp only [ev, envOf, val_set, ofValue, ofCell, ↓reduceIte, Nat.reduceEqDiff, v0, v2, v3, v4] <;> rfl)) rfl ((wanted_of (b := true) rfl rfl rfl (by simp only [val_set, ↓reduceIte, Nat.reduceEqDiff, v0, v2, v3, v4] <;> rfl)).trans rfl) ?_
    refine o_rd (r_le (a := n) (b := 2147483647) (by simp only [ev, envOf, val_set, ofValue, ofCell, ↓reduceIte, Nat.reduceEqDiff, v0, v2, v3, v4] <;> rfl) (by simp only [ev, envOf, val_set, ofValue, ofCell, ↓reduceIte, Nat.reduceEqDiff, v0, v2, v3, v4] <;> rfl)) rfl ((wanted_of (b := true) rfl rfl rfl (by simp only [val_set, ↓reduceIte, Nat.reduceEqDiff, v0, v2, v3, v4] <;> rfl)).trans rfl) ?_
    refine o_rd (r_pick (t := true) (by simp only [ev, envOf, val_set, ofValue, ofCell, ↓reduceIte, Nat.reduceEqDiff, v0, v2, v3, v4] <;> rfl) (fun _ => (by simp only [ev, envOf, val_set, ofValue, ofCell, ↓reduceIte, Nat.reduceEqDiff, v0, v2, v3, v4] <;> rfl)) (fun h => by cases h)) rfl rfl ?_
    refine o_nil ?_
    refine w_cond (by simp only [ev, envOf, val_set, ofValue, ofCell, ↓reduceIte, Nat.reduceEqDiff, v0, v2, v3, v4] <;> rfl) (fun hB3 => ?_) (fun hB3 => ?_)
    · have hc3 := dec_t hB3
      refine w_skip ?_
      refine w_seq ?_
      refine w_block ?_
      refine w_seq ?_
      refine w_region ?_
      have hi : i < l.length := by omega
      obtain ⟨loc1, off1, cap1, sk, rfl, hr1, hK⟩ := hL.get hi
      have hkb := hK.bound; have hni := hnm i hi
      have hm1 := sumF_b (n := n) (k := (l[i].ks.length : Nat)) (by omega) (by omega)
      have hm2 := sumF_b (n := sumF n (l[i].ks.length : Nat)) (k := (l[i].nm.length : Nat)) (by omega) (by omega)
      have hm3 := sumF_b (n := sumF (sumF n (l[i].ks.length : Nat)) (l[i].nm.length : Nat)) (k := 1) (by omega) (by omega)
      have hm4 : i + 1 ≤ sumF (sumF (sumF n (l[i].ks.length : Nat)) (l[i].nm.length : Nat)) 1 := by
        by_cases q : sumF (sumF n (l[i].ks.length : Nat)) (l[i].nm.length : Nat) ≤ 2147483647
        · have := sumF_1 q; omega
        · omega
      refine o_rd (r_move (by simp only [ev, envOf, val_set, ofValue, ofCell, ↓reduceIte, Nat.reduceEqDiff, v0, v2, v3, v4] <;> rfl)) rfl rfl ?_
      refine o_rd (r_move (by simp only [ev, envOf, val_set, ofValue, ofCell, ↓reduceIte, Nat.reduceEqDiff, v0, v2, v3, v4] <;> rfl)) rfl rfl ?_
      refine o_rd (r_move (by simp only [ev, envOf, val_set, ofValue, ofCell, ↓reduceIte, Nat.reduceEqDiff, v0, v2, v3, v4] <;> rfl)) rfl rfl ?_
      refine o_rd (r_indexAddr Tryd.underlying28 Ty.csz24 (by simp only [ev, envOf, val_set, ofValue, ofCell, ↓reduceIte, Nat.reduceEqDiff, v0, v2, v3, v4] <;> rfl) (by simp only [ev, envOf, val_set, ofValue, ofCell, ↓reduceIte, Nat.reduceEqDiff, v0, v2, v3, v4] <;> rfl) hi) rfl rfl ?_
      refine o_rd (r_fieldAddr Ty.fo24_2 (by simp only [ev, envOf, val_set, ofValue, ofCell, ↓reduceIte, Nat.reduceEqDiff, v0, v2, v3, v4] <;> rfl)) rfl rfl ?_
      refine o_rd (r_load1 Ty.agg22 (by simp only [ev, envOf, val_set, ofValue, ofCell, ↓reduceIte, Nat.reduceEqDiff, v0, v2, v3, v4] <;> rfl) ((read_part (Ext.read (H := H0) (by assumption) hr1) (o := 2) (m := 1) (by decide)).trans rfl)) rfl rfl ?_
      refine o_rd (r_len (n := l[i].ks.length) Tryd.underlying22 (by simp only [ev, envOf, val_set, ofValue, ofCell, ↓reduceIte, Nat.reduceEqDiff, v0, v2, v3, v4] <;> rfl) hK.lenOf) rfl rfl ?_
      refine o_cl rfl rfl (by simp only [evs, ev, envOf, val_set, ofValue, ofCell, ↓reduceIte, Nat.reduceEqDiff, v0, v2, v3, v4] <;> rfl) rfl (more_fin ho W1 (n) (((l[i].ks.length : Nat) : Int)) (by omega) (by omega) (by omega) (by omega)) rfl rfl ?_; rintro _ H4 ⟨rfl, X4⟩
      have W4 := X4.wf; have E4 := E1.trans X4
      have n4 := X4.n
      refine o_rd (r_assign (by simp only [ev, envOf, val_set, ofValue, ofCell, ↓reduceIte, Nat.reduceEqDiff, v0, v2, v3, v4] <;> rfl)) rfl rfl ?_
      refine o_nil ?_
      refine w_seq ?_
      refine w_region ?_
      refine o_rd (r_move (by simp only [ev, envOf, val_set, ofValue, ofCell, ↓reduceIte, Nat.reduceEqDiff, v0, v2, v3, v4] <;> rfl)) rfl rfl ?_
      refine o_rd (r_move (by simp only [ev, envOf, val_set, ofValue, ofCell, ↓reduceIte, Nat.reduceEqDiff, v0, v2, v3, v4] <;> rfl)) rfl rfl ?_
      refine o_rd (r_move (by simp only [ev, envOf, val_set, ofValue, ofCell, ↓reduceIte, Nat.reduceEqDiff, v0, v2, v3, v4] <;> rfl)) rfl rfl ?_
      refine o_rd (r_indexAddr Tryd.underlying28 Ty.csz24 (by simp only [ev, envOf, val_set, ofValue, ofCell, ↓reduceIte, Nat.reduceEqDiff, v0, v2, v3, v4] <;> rfl) (by simp only [ev, envOf, val_set, ofValue, ofCell, ↓reduceIte, Nat.reduceEqDiff, v0, v2, v3, v4] <;> rfl) hi) rfl rfl ?_
      refine o_rd (r_fieldAddr Ty.fo24_3 (by simp only [ev, envOf, val_set, ofValue, ofCell, ↓reduceIte, Nat.reduceEqDiff, v0, v2, v3, v4] <;> rfl)) rfl rfl ?_
      refine o_rd (r_load1 Ty.agg9 (by simp only [ev, envOf, val_set, ofValue, ofCell, ↓reduceIte, Nat.reduceEqDiff, v0, v2, v3, v4] <;> rfl) ((read_part (Ext.read (H := H0) (by assumption) hr1) (o := 3) (m := 1) (by decide)).trans rfl)) rfl rfl ?_
      refine o_rd (r_lenStr Tryd.underlying9 (by simp only [ev, envOf, val_set, ofValue, ofCell, ↓reduceIte, Nat.reduceEqDiff, v0, v2, v3, v4] <;> rfl)) rfl rfl ?_
      refine o_cl rfl rfl (by simp only [evs, ev, envOf, val_set, ofValue, ofCell, ↓reduceIte, Nat.reduceEqDiff, v0, v2, v3, v4] <;> rfl) rfl (more_fin ho W4 (sumF (n) (((l[i].ks.length : Nat) : Int))) ((((l[i].nm).length : Nat) : Int)) (by omega) (by omega) (by omega) (by omega)) rfl rfl ?_; rintro _ H5 ⟨rfl, X5⟩
      have W5 := X5.wf; have E5 := E4.trans X5
      have n5 := X5.n
      refine o_rd (r_assign (by simp only [ev, envOf, val_set, ofValue, ofCell, ↓reduceIte, Nat.reduceEqDiff, v0, v2, v3, v4] <;> rfl)) rfl rfl ?_
      refine o_nil ?_
      refine w_region ?_
      refine o_rd (r_move (by simp only [ev, envOf, val_set, ofValue, ofCell, ↓reduceIte, Nat.reduceEqDiff, v0, v2, v3, v4] <;> rfl)) rfl rfl ?_
      refine o_cl rfl rfl (by simp only [evs, ev, envOf, val_set, ofValue, ofCell, ↓reduceIte, Nat.reduceEqDiff, v0, v2, v3, v4] <;> rfl) rfl (more_fin ho W5 (sumF (sumF (n) (((l[i].ks.length : Nat) : Int))) ((((l[i].nm).length : Nat) : Int))) (1) (by omega) (by omega) (by omega) (by omega)) rfl rfl ?_; rintro _ H6 ⟨rfl, X6⟩
      have W6 := X6.wf; have E6 := E5.trans X6
      have n6 := X6.n
      refine o_rd (r_assign (by simp only [ev, envOf, val_set, ofValue, ofCell, ↓reduceIte, Nat.reduceEqDiff, v0, v2, v3, v4] <;> rfl)) rfl rfl ?_
      refine o_nil ?_
      refine w_region ?_
      refine o_rd (r_move (by simp only [ev, envOf, val_set, ofValue, ofCell, ↓reduceIte, Nat.reduceEqDiff, v0, v2, v3, v4] <;> rfl)) rfl rfl ?_
      refine o_rd (r_addE (a := ((i : Nat) : Int)) (b := 1) (c := ((i + 1 : Nat) : Int)) (by simp only [ev, envOf, val_set, ofValue, ofCell, ↓reduceIte, Nat.reduceEqDiff, v0, v2, v3, v4] <;> rfl) (by simp only [ev, envOf, val_set, ofValue, ofCell, ↓reduceIte, Nat.reduceEqDiff, v0, v2, v3, v4] <;> rfl) (by omega) (by omega) (by omega)) rfl rfl ?_
      refine o_rd (r_assign (by simp only [ev, envOf, val_set, ofValue, ofCell, ↓reduceIte, Nat.reduceEqDiff, v0, v2, v3, v4] <;> rfl)) rfl rfl ?_
      refine o_nil ?_
      exact ⟨l.length - (i + 1), (by omega), _, H6, i + 1, sumF (sumF (sumF (n) (((l[i].ks.length : Nat) : Int))) ((((l[i].nm).length : Nat) : Int))) (1), rfl, (by simp only [val_set, ↓reduceIte, Nat.reduceEqDiff, v0, v2, v3, v4] <;> rfl), (by simp only [val_set, ↓reduceIte, Nat.reduceEqDiff, v0, v2, v3, v4] <;> rfl), (by simp only [val_set, ↓reduceIte, Nat.reduceEqDiff, v0, v2, v3, v4] <;> rfl), (by simp only [val_set, ↓reduceIte, Nat.reduceEqDiff, v0, v2, v3, v4] <;> rfl), W6, E6, (by omega), (by omega)⟩
    · have hc3 := dec_f hB3
      first | refine w_exit (blk_exit ?_) | refine w_exit (show (0 = 0 → _) ∧ (0 ≠ 0 → _) from ⟨fun _ => ?_, fun c => absurd rfl c⟩)
      refine w_seq ?_
      refine w_region ?_
      refine o_rd (r_move (by simp only [ev, envOf, val_set, ofValue, ofCell, ↓reduceIte, Nat.reduceEqDiff, v0, v2, v3, v4] <;> rfl)) rfl rfl ?_
      refine o_rd (r_gt (a := n) (b := 2147483647) (by simp only [ev, envOf, val_set, ofValue, ofCell, ↓reduceIte, Nat.reduceEqDiff, v0, v2, v3, v4] <;> rfl) (by simp only [ev, envOf, val_set, ofValue, ofCell, ↓reduceIte, Nat.reduceEqDiff, v0, v2, v3, v4] <;> rfl)) rfl rfl ?_
      refine o_rd (r_assign (by simp only [ev, envOf, val_set, ofValue, ofCell, ↓reduceIte, Nat.reduceEqDiff, v0, v2, v3, v4] <;> rfl)) rfl rfl ?_
      refine o_nil ?_
      refine w_ret ⟨.inr rfl, rfl, .bool (decide (2147483647 < n)), (show resultA Tryd.prog [.tmp 2] _ = _ by simp only [resultA, resultsA, envOf, val_set, ↓reduceIte, Nat.reduceEqDiff, Option.map_some, v0, v2, v3, v4] <;> rfl), ?_⟩
      try dsimp only
      exact ⟨_, rfl, fun hb => by have := of_decide_eq_false hb; omega, E1⟩
end Go.Proofs.YtpdphdbphhaekaaDoor.Vs
