/-
  What a node wants of its kids.
-/
import Derived.Test.YtpdphdbphhaekaaDoorTree1
set_option autoImplicit false
set_option linter.unusedVariables false
set_option linter.unusedSimpArgs false
namespace Go.Proofs.YtpdphdbphhaekaaDoor.Vs
open Go.VI Go.Proofs
variable {orc : CallF}
def tup3 (x : Int × Int × Int) : AV := .tup [.int .i64 x.1, .int .i64 x.2.1, .int .i64 x.2.2]
def w1 (n : Int) : Int := wrapA .i64 (1 + n)
def paramF (n k m : Int) : Int × Int × Int :=
  if k = m - 1 then (3, w1 n, m) else if n = 1 ∧ k = m - 2 then (0, 2, m) else (4, w1 n, m)
/-- the class that a kid must be of, how few and how many kids -/
def wantsF (kind n k m : Int) : Int × Int × Int :=
  if kind = 4 ∨ kind = 6 ∨ kind = 42 ∨ kind = 45 then (0, 1, 1)
  else if kind = 5 then (0, 2, m)
  else if kind = 7 then (0, 0, m)
  else if kind = 19 then (7, 1, 1)
  else if kind = 15 then (1, 2, m)
  else if kind = 16 ∨ kind = 23 then (1, 1, m)
  else if kind = 20 then paramF n k m
  else if kind = 17 ∨ kind = 22 ∨ kind = 24 ∨ kind = 33 ∨ kind = 34 then (1, 2, 2)
  else if kind = 14 ∨ kind = 18 ∨ kind = 21 ∨ kind = 25 ∨ kind = 31 ∨ kind = 35 ∨ kind = 39 then (1, 1, 1)
  else if kind = 38 then (1, 0, 1)
  else if kind = 32 then (if k = 0 then (0, 1, 2) else (1, 1, 2))
  else if kind = 40 then (5, 0, m)
  else if kind = 41 then (2, 0, m)
  else if kind = 46 then (if k < n then (6, 0, m) else (2, 0, m))
  else if kind = 44 then (if k = m - 1 then (3, 3, 3) else (1, 3, 3))
  else if kind = 37 ∨ kind = 43 then (if k = m - 1 then (3, 2, 2) else (1, 2, 2))
  else if kind = 36 then (if k = 2 then (3, 2, 3) else if k = 1 then (3, 2, 3) else (1, 2, 3))
  else if k = m - 1 then (3, 0, 0) else (1, 0, 0)
def leastF (kind n k : Int) : Int :=
  if kind = 22 then (if levelF kind n = 3 ∨ k = 1 then levelF kind n + 1 else levelF kind n)
  else if kind = 21 then 6
  else if kind = 43 then (if k = 0 then 6 else 1)
  else if kind = 25 then 7
  else if kind = 23 ∨ kind = 24 then (if k = 0 then 7 else 1)
  else 1
def moreF (n k : Int) : Int := if 2147483647 < n ∨ 2147483647 - n < k then 2147483648 else n + k
theorem levelF_le (k n : Int) : 0 ≤ levelF k n ∧ levelF k n ≤ 8 := by unfold levelF; repeat' split
                                                                      all_goals omega
set_option maxRecDepth 100000 in
set_option maxHeartbeats 4000000 in
theorem param_fin (ho : NoOrcBut [8, 64, 65] orc) {H0 : AH} (W0 : Wf H0) (v : ND) (sk : AV) (k : Int) (hK : SI H0 v.ks sk) : Fin Tryd.prog orc 58 [.agg [.int .i64 (v.k), .int .i64 (v.at_), sk, .str (v.nm), .int .i64 (v.n)], .int .i64 (k)] H0 (fun r H' => r = tup3 (paramF v.n k v.ks.length) ∧ Ext H0 H') := by
  have E0 := Ext.refl W0
  have hkb := hK.bound
  refine fin_of Tryd.func58 rfl (by rw [Tryd.ntmps58]; simp) (ho _ rfl _ _) ?_
  rw [Tryd.ntmps58]
  refine w_seq ?_
  refine w_region ?_
  refine o_nw W0 (a_box (by simp only [ev, envOf, val_set, ofValue, ofCell, ↓reduceIte, Nat.reduceEqDiff] <;> rfl)) rfl rfl rfl (by simp) ?_; intro H1 n1 W1 X1 A1
  have A1 : H1.at H0.n = some (.row [.int .i64 (v.k), .int .i64 (v.at_), sk, .str (v.nm), .int .i64 (v.n)] 24 false none) := A1
  have E1 := E0.trans X1
  have g1 : H0.n ≤ H0.n := E0.n
  refine o_rd (r_assign (by simp only [ev, envOf, val_set, ofValue, ofCell, ↓reduceIte, Nat.reduceEqDiff] <;> rfl)) rfl rfl ?_
  refine o_rd (r_assign (by simp only [ev, envOf, val_set, ofValue, ofCell, ↓reduceIte, Nat.reduceEqDiff] <;> rfl)) rfl rfl ?_
  refine o_rd (r_assign (by simp only [ev, envOf, val_set, ofValue, ofCell, ↓reduceIte, Nat.reduceEqDiff] <;> rfl)) rfl rfl ?_
  refine o_nil ?_
  refine w_seq ?_
  refine w_region ?_
  refine o_rd (r_fieldAddr Ty.fo24_2 (by simp only [ev, envOf, val_set, ofValue, ofCell, ↓reduceIte, Nat.reduceEqDiff] <;> rfl)) rfl rfl ?_
  refine o_rd (r_load1 (v := sk) Ty.agg22 (by simp only [ev, envOf, val_set, ofValue, ofCell, ↓reduceIte, Nat.reduceEqDiff] <;> rfl) (read_mt A1 (Nat.le_of_ble_eq_true rfl))) rfl rfl ?_
  refine o_rd (r_len (n := v.ks.length) Tryd.underlying22 (by simp only [ev, envOf, val_set, ofValue, ofCell, ↓reduceIte, Nat.reduceEqDiff] <;> rfl) hK.lenOf) rfl rfl ?_
  refine o_rd (r_assign (by simp only [ev, envOf, val_set, ofValue, ofCell, ↓reduceIte, Nat.reduceEqDiff] <;> rfl)) rfl rfl ?_
  refine o_nil ?_
  refine w_seq ?_
  refine w_block ?_
  refine w_seq ?_
  refine w_region ?_
  refine o_rd (r_move (by simp only [ev, envOf, val_set, ofValue, ofCell, ↓reduceIte, Nat.reduceEqDiff] <;> rfl)) rfl rfl ?_
  refine o_rd (r_move (by simp only [ev, envOf, val_set, ofValue, ofCell, ↓reduceIte, Nat.reduceEqDiff] <;> rfl)) rfl rfl ?_
  refine o_rd (r_subE (a := ((v.ks.length : Nat) : Int)) (b := 1) (c := ((v.ks.length : Nat) : Int) - 1) (by simp only [ev, envOf, val_set, ofValue, ofCell, ↓reduceIte, Nat.reduceEqDiff] <;> rfl) (by simp only [ev, envOf, val_set, ofValue, ofCell, ↓reduceIte, Nat.reduceEqDiff] <;> rfl) (by omega) (by omega) (by omega)) rfl rfl ?_
  refine o_rd (r_eq (a := k) (b := ((v.ks.length : Nat) : Int) - 1) (by simp only [ev, envOf, val_set, ofValue, ofCell, ↓reduceIte, Nat.reduceEqDiff] <;> rfl) (by simp only [ev, envOf, val_set, ofValue, ofCell, ↓reduceIte, Nat.reduceEqDiff] <;> rfl)) rfl rfl ?_
  refine o_rd (r_assign (by simp only [ev, envOf, val_set, ofValue, ofCell, ↓reduceIte, Nat.reduceEqDiff] <;> rfl)) rfl rfl ?_
  refine o_nil ?_
  refine w_cond (by simp only [ev, envOf, val_set, ofValue, ofCell, ↓reduceIte, Nat.reduceEqDiff] <;> rfl) (fun hB2 => ?_) (fun hB2 => ?_)
  · have hc2 := dec_t hB2
    refine w_seq ?_
    refine w_draw (ms := [0, 1, 3, 0, 0, 23, 63]) (ord := [0, 1, 2, 3, 4, 5, 6]) (by kernel_rfl) (by kernel_rfl) (by kernel_rfl) ?_
    refine d_rd rfl (r_fieldAddr Ty.fo24_4 (by simp only [ev, envOf, val_set, ofValue, ofCell, ↓reduceIte, Nat.reduceEqDiff] <;> rfl)) rfl rfl ?_
    refine d_rd rfl (r_load1 (v := .int .i64 (v.n)) Ty.agg3 (by simp only [ev, envOf, val_set, ofValue, ofCell, ↓reduceIte, Nat.reduceEqDiff] <;> rfl) (read_mt A1 (Nat.le_of_ble_eq_true rfl))) rfl rfl ?_
    refine d_rd rfl (r_addW (a := 1) (b := v.n) (by simp only [ev, envOf, val_set, ofValue, ofCell, ↓reduceIte, Nat.reduceEqDiff] <;> rfl) (by simp only [ev, envOf, val_set, ofValue, ofCell, ↓reduceIte, Nat.reduceEqDiff] <;> rfl)) rfl rfl ?_
    refine d_rd rfl (r_move (by simp only [ev, envOf, val_set, ofValue, ofCell, ↓reduceIte, Nat.reduceEqDiff] <;> rfl)) rfl rfl ?_
    refine d_rd rfl (r_assign (by simp only [ev, envOf, val_set, ofValue, ofCell, ↓reduceIte, Nat.reduceEqDiff] <;> rfl)) rfl rfl ?_
    refine d_rd rfl (r_assign (by simp only [ev, envOf, val_set, ofValue, ofCell, ↓reduceIte, Nat.reduceEqDiff] <;> rfl)) rfl rfl ?_
    refine d_rd rfl (r_assign (by simp only [ev, envOf, val_set, ofValue, ofCell, ↓reduceIte, Nat.reduceEqDiff] <;> rfl)) rfl rfl ?_
    refine d_nil ?_
    refine w_ret ⟨.inr rfl, rfl, .tup [.int .i64 (3), .int .i64 (wrapA .i64 (1 + v.n)), .int .i64 (((v.ks.length : Nat) : Int))], (show resultA Tryd.prog [.tmp 4, .tmp 5, .tmp 6] _ = _ by simp only [resultA, resultsA, envOf, val_set, ↓reduceIte, Nat.reduceEqDiff, Option.map_some] <;> rfl), ?_⟩
    try dsimp only
    have hp : paramF v.n k v.ks.length = ((3), (wrapA .i64 (1 + v.n)), (((v.ks.length : Nat) : Int))) := by simp [paramF, w1, hc2]
    refine ⟨by rw [hp]; rfl, E1⟩
  · have hc2 := dec_f hB2
    refine w_seq ?_
    refine w_region ?_
    refine o_rd (r_fieldAddr Ty.fo24_4 (by simp only [ev, envOf, val_set, ofValue, ofCell, ↓reduceIte, Nat.reduceEqDiff] <;> rfl)) rfl rfl ?_
    refine o_rd (r_load1 (v := .int .i64 (v.n)) Ty.agg3 (by simp only [ev, envOf, val_set, ofValue, ofCell, ↓reduceIte, Nat.reduceEqDiff] <;> rfl) (read_mt A1 (Nat.le_of_ble_eq_true rfl))) rfl rfl ?_
    refine o_rd (r_eq (a := v.n) (b := 1) (by simp only [ev, envOf, val_set, ofValue, ofCell, ↓reduceIte, Nat.reduceEqDiff] <;> rfl) (by simp only [ev, envOf, val_set, ofValue, ofCell, ↓reduceIte, Nat.reduceEqDiff] <;> rfl)) rfl rfl ?_
    refine o_rd (r_move (by simp only [ev, envOf, val_set, ofValue, ofCell, ↓reduceIte, Nat.reduceEqDiff] <;> rfl)) rfl rfl ?_
    cases hg3 : (decide (v.n = 1) : Bool)
    · have hg3 := dec_f hg3
      refine o_sk rfl ((wanted_of (b := false) rfl rfl rfl (by simp only [val_set, ↓reduceIte, Nat.reduceEqDiff] <;> rfl)).trans rfl) ?_
      refine o_sk rfl ((wanted_of (b := false) rfl rfl rfl (by simp only [val_set, ↓reduceIte, Nat.reduceEqDiff] <;> rfl)).trans rfl) ?_
      refine o_sk rfl ((wanted_of (b := false) rfl rfl rfl (by simp only [val_set, ↓reduceIte, Nat.reduceEqDiff] <;> rfl)).trans rfl) ?_
      refine o_sk rfl ((wanted_of (b := false) rfl rfl rfl (by simp only [val_set, ↓reduceIte, Nat.reduceEqDiff] <;> rfl)).trans rfl) ?_
      refine o_rd (r_pick (t := false) (by simp only [ev, envOf, val_set, ofValue, ofCell, ↓reduceIte, Nat.reduceEqDiff] <;> rfl) (fun h => by cases h) (fun _ => (by simp only [ev, envOf, val_set, ofValue, ofCell, ↓reduceIte, Nat.reduceEqDiff] <;> rfl))) rfl rfl ?_
      refine o_rd (r_assign (by simp only [ev, envOf, val_set, ofValue, ofCell, ↓reduceIte, Nat.reduceEqDiff] <;> rfl)) rfl rfl ?_
      refine o_nil ?_
      refine w_cond (t := false) (by simp only [ev, envOf, val_set, ofValue, ofCell, ↓reduceIte, Nat.reduceEqDiff] <;> rfl) (fun h => by cases h) (fun _ => ?_)
      refine w_skip ?_
      refine w_seq ?_
      refine w_draw (ms := [0, 1, 3, 0, 0, 23, 63]) (ord := [0, 1, 2, 3, 4, 5, 6]) (by kernel_rfl) (by kernel_rfl) (by kernel_rfl) ?_
      refine d_rd rfl (r_fieldAddr Ty.fo24_4 (by simp only [ev, envOf, val_set, ofValue, ofCell, ↓reduceIte, Nat.reduceEqDiff] <;> rfl)) rfl rfl ?_
      refine d_rd rfl (r_load1 (v := .int .i64 (v.n)) Ty.agg3 (by simp only [ev, envOf, val_set, ofValue, ofCell, ↓reduceIte, Nat.reduceEqDiff] <;> rfl) (read_mt A1 (Nat.le_of_ble_eq_true rfl))) rfl rfl ?_
      refine d_rd rfl (r_addW (a := 1) (b := v.n) (by simp only [ev, envOf, val_set, ofValue, ofCell, ↓reduceIte, Nat.reduceEqDiff] <;> rfl) (by simp only [ev, envOf, val_set, ofValue, ofCell, ↓reduceIte, Nat.reduceEqDiff] <;> rfl)) rfl rfl ?_
      refine d_rd rfl (r_move (by simp only [ev, envOf, val_set, ofValue, ofCell, ↓reduceIte, Nat.reduceEqDiff] <;> rfl)) rfl rfl ?_
      refine d_rd rfl (r_assign (by simp only [ev, envOf, val_set, ofValue, ofCell, ↓reduceIte, Nat.reduceEqDiff] <;> rfl)) rfl rfl ?_
      refine d_rd rfl (r_assign (by simp only [ev, envOf, val_set, ofValue, ofCell, ↓reduceIte, Nat.reduceEqDiff] <;> rfl)) rfl rfl ?_
      refine d_rd rfl (r_assign (by simp only [ev, envOf, val_set, ofValue, ofCell, ↓reduceIte, Nat.reduceEqDiff] <;> rfl)) rfl rfl ?_
      refine d_nil ?_
      refine w_ret ⟨.inr rfl, rfl, .tup [.int .i64 (4), .int .i64 (wrapA .i64 (1 + v.n)), .int .i64 (((v.ks.length : Nat) : Int))], (show resultA Tryd.prog [.tmp 4, .tmp 5, .tmp 6] _ = _ by simp only [resultA, resultsA, envOf, val_set, ↓reduceIte, Nat.reduceEqDiff, Option.map_some] <;> rfl), ?_⟩
      try dsimp only
      have hp : paramF v.n k v.ks.length = ((4), (wrapA .i64 (1 + v.n)), (((v.ks.length : Nat) : Int))) := by simp [paramF, w1, hc2, hg3]
      refine ⟨by rw [hp]; rfl, E1⟩
    · have hg3 := dec_t hg3
      refine o_rd (r_move (by simp only [ev, envOf, val_set, ofValue, ofCell, ↓reduceIte, Nat.reduceEqDiff] <;> rfl)) rfl ((wanted_of (b := true) rfl rfl rfl (by simp only [val_set, ↓reduceIte, Nat.reduceEqDiff] <;> rfl)).trans rfl) ?_
      refine o_rd (r_move (by simp only [ev, envOf, val_set, ofValue, ofCell, ↓reduceIte, Nat.reduceEqDiff] <;> rfl)) rfl ((wanted_of (b := true) rfl rfl rfl (by simp only [val_set, ↓reduceIte, Nat.reduceEqDiff] <;> rfl)).trans rfl) ?_
      refine o_rd (r_subE (a := ((v.ks.length : Nat) : Int)) (b := 2) (c := ((v.ks.length : Nat) : Int) - 2) (by simp only [ev, envOf, val_set, ofValue, ofCell, ↓reduceIte, Nat.reduceEqDiff] <;> rfl) (by simp only [ev, envOf, val_set, ofValue, ofCell, ↓reduceIte, Nat.reduceEqDiff] <;> rfl) (by omega) (by omega) (by omega)) rfl ((wanted_of (b := true) rfl rfl rfl (by simp only [val_set, ↓reduceIte, Nat.reduceEqDiff] <;> rfl)).trans rfl) ?_
      refine o_rd (r_eq (a := k) (b := ((v.ks.length : Nat) : Int) - 2) (by simp only [ev, envOf, val_set, ofValue, ofCell, ↓reduceIte, Nat.reduceEqDiff] <;> rfl) (by simp only [ev, envOf, val_set, ofValue, ofCell, ↓reduceIte, Nat.reduceEqDiff] <;> rfl)) rfl ((wanted_of (b := true) rfl rfl rfl (by simp only [val_set, ↓reduceIte, Nat.reduceEqDiff] <;> rfl)).trans rfl) ?_
      refine o_rd (r_pick (t := true) (by simp only [ev, envOf, val_set, ofValue, ofCell, ↓reduceIte, Nat.reduceEqDiff] <;> rfl) (fun _ => (by simp only [ev, envOf, val_set, ofValue, ofCell, ↓reduceIte, Nat.reduceEqDiff] <;> rfl)) (fun h => by cases h)) rfl rfl ?_
      refine o_rd (r_assign (by simp only [ev, envOf, val_set, ofValue, ofCell, ↓reduceIte, Nat.reduceEqDiff] <;> rfl)) rfl rfl ?_
      refine o_nil ?_
      refine w_cond (by simp only [ev, envOf, val_set, ofValue, ofCell, ↓reduceIte, Nat.reduceEqDiff] <;> rfl) (fun hB4 => ?_) (fun hB4 => ?_)
      · have hc4 := dec_t hB4
        refine w_seq ?_
        refine w_region ?_
        refine o_rd (r_move (by simp only [ev, envOf, val_set, ofValue, ofCell, ↓reduceIte, Nat.reduceEqDiff] <;> rfl)) rfl rfl ?_
        refine o_rd (r_assign (by simp only [ev, envOf, val_set, ofValue, ofCell, ↓reduceIte, Nat.reduceEqDiff] <;> rfl)) rfl rfl ?_
        refine o_rd (r_assign (by simp only [ev, envOf, val_set, ofValue, ofCell, ↓reduceIte, Nat.reduceEqDiff] <;> rfl)) rfl rfl ?_
        refine o_rd (r_assign (by simp only [ev, envOf, val_set, ofValue, ofCell, ↓reduceIte, Nat.reduceEqDiff] <;> rfl)) rfl rfl ?_
        refine o_nil ?_
        refine w_ret ⟨.inr rfl, rfl, .tup [.int .i64 (0), .int .i64 (2), .int .i64 (((v.ks.length : Nat) : Int))], (show resultA Tryd.prog [.tmp 4, .tmp 5, .tmp 6] _ = _ by simp only [resultA, resultsA, envOf, val_set, ↓reduceIte, Nat.reduceEqDiff, Option.map_some] <;> rfl), ?_⟩
        try dsimp only
        have hp : paramF v.n k v.ks.length = ((0), (2), (((v.ks.length : Nat) : Int))) := by simp [paramF, w1, hc2, hg3, hc4]
        refine ⟨by rw [hp]; rfl, E1⟩
      · have hc4 := dec_f hB4
        refine w_skip ?_
        refine w_seq ?_
        refine w_draw (ms := [0, 1, 3, 0, 0, 23, 63]) (ord := [0, 1, 2, 3, 4, 5, 6]) (by kernel_rfl) (by kernel_rfl) (by kernel_rfl) ?_
        refine d_rd rfl (r_fieldAddr Ty.fo24_4 (by simp only [ev, envOf, val_set, ofValue, ofCell, ↓reduceIte, Nat.reduceEqDiff] <;> rfl)) rfl rfl ?_
        refine d_rd rfl (r_load1 (v := .int .i64 (v.n)) Ty.agg3 (by simp only [ev, envOf, val_set, ofValue, ofCell, ↓reduceIte, Nat.reduceEqDiff] <;> rfl) (read_mt A1 (Nat.le_of_ble_eq_true rfl))) rfl rfl ?_
        refine d_rd rfl (r_addW (a := 1) (b := v.n) (by simp only [ev, envOf, val_set, ofValue, ofCell, ↓reduceIte, Nat.reduceEqDiff] <;> rfl) (by simp only [ev, envOf, val_set, ofValue, ofCell, ↓reduceIte, Nat.reduceEqDiff] <;> rfl)) rfl rfl ?_
        refine d_rd rfl (r_move (by simp only [ev, envOf, val_set, ofValue, ofCell, ↓reduceIte, Nat.reduceEqDiff] <;> rfl)) rfl rfl ?_
        refine d_rd rfl (r_assign (by simp only [ev, envOf, val_set, ofValue, ofCell, ↓reduceIte, Nat.reduceEqDiff] <;> rfl)) rfl rfl ?_
        refine d_rd rfl (r_assign (by simp only [ev, envOf, val_set, ofValue, ofCell, ↓reduceIte, Nat.reduceEqDiff] <;> rfl)) rfl rfl ?_
        refine d_rd rfl (r_assign (by simp only [ev, envOf, val_set, ofValue, ofCell, ↓reduceIte, Nat.reduceEqDiff] <;> rfl)) rfl rfl ?_
        refine d_nil ?_
        refine w_ret ⟨.inr rfl, rfl, .tup [.int .i64 (4), .int .i64 (wrapA .i64 (1 + v.n)), .int .i64 (((v.ks.length : Nat) : Int))], (show resultA Tryd.prog [.tmp 4, .tmp 5, .tmp 6] _ = _ by simp only [resultA, resultsA, envOf, val_set, ↓reduceIte, Nat.reduceEqDiff, Option.map_some] <;> rfl), ?_⟩
        try dsimp only
        have hp : paramF v.n k v.ks.length = ((4), (wrapA .i64 (1 + v.n)), (((v.ks.length : Nat) : Int))) := by simp [paramF, w1, hc2, hg3, hc4]
        refine ⟨by rw [hp]; rfl, E1⟩
set_option maxRecDepth 100000 in
set_option maxHeartbeats 4000000 in
theorem wants_fin (ho : NoOrcBut [8, 64, 65] orc) {H0 : AH} (W0 : Wf H0) (v : ND) (sk : AV) (k : Int) (hK : SI H0 v.ks sk) : Fin Tryd.prog orc 40 [.agg [.int .i64 (v.k), .int .i64 (v.at_), sk, .str (v.nm), .int .i64 (v.n)], .int .i64 (k)] H0 (fun r H' => r = tup3 (wantsF v.k v.n k v.ks.length) ∧ Ext H0 H') := by
  have E0 := Ext.refl W0
  have hkb := hK.bound
  refine fin_of Tryd.func40 rfl (by rw [Tryd.ntmps40]; simp) (ho _ rfl _ _) ?_
  rw [Tryd.ntmps40]
  refine w_seq ?_
  refine w_region ?_
  refine o_nw W0 (a_box (by simp only [ev, envOf, val_set, ofValue, ofCell, ↓reduceIte, Nat.reduceEqDiff] <;> rfl)) rfl rfl rfl (by simp) ?_; intro H1 n1 W1 X1 A1
  have A1 : H1.at H0.n = some (.row [.int .i64 (v.k), .int .i64 (v.at_), sk, .str (v.nm), .int .i64 (v.n)] 24 false none) := A1
  have E1 := E0.trans X1
  have g1 : H0.n ≤ H0.n := E0.n
  refine o_rd (r_assign (by simp only [ev, envOf, val_set, ofValue, ofCell, ↓reduceIte, Nat.reduceEqDiff] <;> rfl)) rfl rfl ?_
  refine o_rd (r_assign (by simp only [ev, envOf, val_set, ofValue, ofCell, ↓reduceIte, Nat.reduceEqDiff] <;> rfl)) rfl rfl ?_
  refine o_rd (r_assign (by simp only [ev, envOf, val_set, ofValue, ofCell, ↓reduceIte, Nat.reduceEqDiff] <;> rfl)) rfl rfl ?_
  refine o_nil ?_
  refine w_seq ?_
  refine w_region ?_
  refine o_rd (r_fieldAddr Ty.fo24_2 (by simp only [ev, envOf, val_set, ofValue, ofCell, ↓reduceIte, Nat.reduceEqDiff] <;> rfl)) rfl rfl ?_
  refine o_rd (r_load1 (v := sk) Ty.agg22 (by simp only [ev, envOf, val_set, ofValue, ofCell, ↓reduceIte, Nat.reduceEqDiff] <;> rfl) (read_mt A1 (Nat.le_of_ble_eq_true rfl))) rfl rfl ?_
  refine o_rd (r_len (n := v.ks.length) Tryd.underlying22 (by simp only [ev, envOf, val_set, ofValue, ofCell, ↓reduceIte, Nat.reduceEqDiff] <;> rfl) hK.lenOf) rfl rfl ?_
  refine o_rd (r_assign (by simp only [ev, envOf, val_set, ofValue, ofCell, ↓reduceIte, Nat.reduceEqDiff] <;> rfl)) rfl rfl ?_
  refine o_nil ?_
  refine w_seq ?_
  refine w_region ?_
  refine o_rd (r_move (by simp only [ev, envOf, val_set, ofValue, ofCell, ↓reduceIte, Nat.reduceEqDiff] <;> rfl)) rfl rfl ?_
  refine o_rd (r_move (by simp only [ev, envOf, val_set, ofValue, ofCell, ↓reduceIte, Nat.reduceEqDiff] <;> rfl)) rfl rfl ?_
  refine o_rd (r_subE (a := ((v.ks.length : Nat) : Int)) (b := 1) (c := ((v.ks.length : Nat) : Int) - 1) (by simp only [ev, envOf, val_set, ofValue, ofCell, ↓reduceIte, Nat.reduceEqDiff] <;> rfl) (by simp only [ev, envOf, val_set, ofValue, ofCell, ↓reduceIte, Nat.reduceEqDiff] <;> rfl) (by omega) (by omega) (by omega)) rfl rfl ?_
  refine o_rd (r_eq (a := k) (b := ((v.ks.length : Nat) : Int) - 1) (by simp only [ev, envOf, val_set, ofValue, ofCell, ↓reduceIte, Nat.reduceEqDiff] <;> rfl) (by simp only [ev, envOf, val_set, ofValue, ofCell, ↓reduceIte, Nat.reduceEqDiff] <;> rfl)) rfl rfl ?_
  refine o_rd (r_assign (by simp only [ev, envOf, val_set, ofValue, ofCell, ↓reduceIte, Nat.reduceEqDiff] <;> rfl)) rfl rfl ?_
  refine o_nil ?_
  refine w_seq ?_
  refine w_seq ?_
  refine w_region ?_
  refine o_rd (r_fieldAddr Ty.fo24_0 (by simp only [ev, envOf, val_set, ofValue, ofCell, ↓reduceIte, Nat.reduceEqDiff] <;> rfl)) rfl rfl ?_
  refine o_rd (r_load1 (v := .int .i64 (v.k)) Ty.agg3 (by simp only [ev, envOf, val_set, ofValue, ofCell, ↓reduceIte, Nat.reduceEqDiff] <;> rfl) (read_mt A1 (Nat.le_of_ble_eq_true rfl))) rfl rfl ?_
  refine o_nil ?_
  refine w_block ?_
  refine w_seq ?_
  refine w_seq ?_
  refine w_region ?_
  refine o_rd (r_eq (a := v.k) (b := 4) (by simp only [ev, envOf, val_set, ofValue, ofCell, ↓reduceIte, Nat.reduceEqDiff] <;> rfl) (by simp only [ev, envOf, val_set, ofValue, ofCell, ↓reduceIte, Nat.reduceEqDiff] <;> rfl)) rfl rfl ?_
  refine o_rd (r_assign (by simp only [ev, envOf, val_set, ofValue, ofCell, ↓reduceIte, Nat.reduceEqDiff] <;> rfl)) rfl rfl ?_
  refine o_nil ?_
  refine w_cond (by simp only [ev, envOf, val_set, ofValue, ofCell, ↓reduceIte, Nat.reduceEqDiff] <;> rfl) (fun hB2 => ?_) (fun hB2 => ?_)
  · have hc2 := dec_t hB2
    refine w_skip ?_
    refine w_cond (t := true) (Eq.trans (show _ = some (AV.bool (decide (v.k = 4))) from (by simp only [ev, envOf, val_set, ofValue, ofCell, ↓reduceIte, Nat.reduceEqDiff] <;> rfl)) (by rw [hB2])) (fun _ => ?_) (fun h => by cases h)
    refine w_seq ?_
    refine w_region ?_
    refine o_rd (r_assign (by simp only [ev, envOf, val_set, ofValue, ofCell, ↓reduceIte, Nat.reduceEqDiff] <;> rfl)) rfl rfl ?_
    refine o_rd (r_assign (by simp only [ev, envOf, val_set, ofValue, ofCell, ↓reduceIte, Nat.reduceEqDiff] <;> rfl)) rfl rfl ?_
    refine o_rd (r_assign (by simp only [ev, envOf, val_set, ofValue, ofCell, ↓reduceIte, Nat.reduceEqDiff] <;> rfl)) rfl rfl ?_
    refine o_nil ?_
    refine w_ret ⟨.inr rfl, rfl, .tup [.int .i64 (0), .int .i64 (1), .int .i64 (1)], (show resultA Tryd.prog [.tmp 4, .tmp 5, .tmp 6] _ = _ by simp only [resultA, resultsA, envOf, val_set, ↓reduceIte, Nat.reduceEqDiff, Option.map_some] <;> rfl), ?_⟩
    try dsimp only
    have hp : wantsF v.k v.n k v.ks.length = ((0), (1), (1)) := by simp [wantsF, hc2]
    refine ⟨by rw [hp]; rfl, E1⟩
  · have hc2 := dec_f hB2
    refine w_seq ?_
    refine w_region ?_
    refine o_rd (r_eq (a := v.k) (b := 6) (by simp only [ev, envOf, val_set, ofValue, ofCell, ↓reduceIte, Nat.reduceEqDiff] <;> rfl) (by simp only [ev, envOf, val_set, ofValue, ofCell, ↓reduceIte, Nat.reduceEqDiff] <;> rfl)) rfl rfl ?_
    refine o_rd (r_assign (by simp only [ev, envOf, val_set, ofValue, ofCell, ↓reduceIte, Nat.reduceEqDiff] <;> rfl)) rfl rfl ?_
    refine o_nil ?_
    refine w_cond (by simp only [ev, envOf, val_set, ofValue, ofCell, ↓reduceIte, Nat.reduceEqDiff] <;> rfl) (fun hB3 => ?_) (fun hB3 => ?_)
    · have hc3 := dec_t hB3
      refine w_skip ?_
      refine w_cond (t := true) (Eq.trans (show _ = some (AV.bool (decide (v.k = 6))) from (by simp only [ev, envOf, val_set, ofValue, ofCell, ↓reduceIte, Nat.reduceEqDiff] <;> rfl)) (by rw [hB3])) (fun _ => ?_) (fun h => by cases h)
      refine w_seq ?_
      refine w_region ?_
      refine o_rd (r_assign (by simp only [ev, envOf, val_set, ofValue, ofCell, ↓reduceIte, Nat.reduceEqDiff] <;> rfl)) rfl rfl ?_
      refine o_rd (r_assign (by simp only [ev, envOf, val_set, ofValue, ofCell, ↓reduceIte, Nat.reduceEqDiff] <;> rfl)) rfl rfl ?_
      refine o_rd (r_assign (by simp only [ev, envOf, val_set, ofValue, ofCell, ↓reduceIte, Nat.reduceEqDiff] <;> rfl)) rfl rfl ?_
      refine o_nil ?_
      refine w_ret ⟨.inr rfl, rfl, .tup [.int .i64 (0), .int .i64 (1), .int .i64 (1)], (show resultA Tryd.prog [.tmp 4, .tmp 5, .tmp 6] _ = _ by simp only [resultA, resultsA, envOf, val_set, ↓reduceIte, Nat.reduceEqDiff, Option.map_some] <;> rfl), ?_⟩
      try dsimp only
      have hp : wantsF v.k v.n k v.ks.length = ((0), (1), (1)) := by simp [wantsF, hc2, hc3]
      refine ⟨by rw [hp]; rfl, E1⟩
    · have hc3 := dec_f hB3
      refine w_seq ?_
      refine w_region ?_
      refine o_rd (r_eq (a := v.k) (b := 42) (by simp only [ev, envOf, val_set, ofValue, ofCell, ↓reduceIte, Nat.reduceEqDiff] <;> rfl) (by simp only [ev, envOf, val_set, ofValue, ofCell, ↓reduceIte, Nat.reduceEqDiff] <;> rfl)) rfl rfl ?_
      refine o_rd (r_assign (by simp only [ev, envOf, val_set, ofValue, ofCell, ↓reduceIte, Nat.reduceEqDiff] <;> rfl)) rfl rfl ?_
      refine o_nil ?_
      refine w_cond (by simp only [ev, envOf, val_set, ofValue, ofCell, ↓reduceIte, Nat.reduceEqDiff] <;> rfl) (fun hB4 => ?_) (fun hB4 => ?_)
      · have hc4 := dec_t hB4
        refine w_skip ?_
        refine w_cond (t := true) (Eq.trans (show _ = some (AV.bool (decide (v.k = 42))) from (by simp only [ev, envOf, val_set, ofValue, ofCell, ↓reduceIte, Nat.reduceEqDiff] <;> rfl)) (by rw [hB4])) (fun _ => ?_) (fun h => by cases h)
        refine w_seq ?_
        refine w_region ?_
        refine o_rd (r_assign (by simp only [ev, envOf, val_set, ofValue, ofCell, ↓reduceIte, Nat.reduceEqDiff] <;> rfl)) rfl rfl ?_
        refine o_rd (r_assign (by simp only [ev, envOf, val_set, ofValue, ofCell, ↓reduceIte, Nat.reduceEqDiff] <;> rfl)) rfl rfl ?_
        refine o_rd (r_assign (by simp only [ev, envOf, val_set, ofValue, ofCell, ↓reduceIte, Nat.reduceEqDiff] <;> rfl)) rfl rfl ?_
        refine o_nil ?_
        refine w_ret ⟨.inr rfl, rfl, .tup [.int .i64 (0), .int .i64 (1), .int .i64 (1)], (show resultA Tryd.prog [.tmp 4, .tmp 5, .tmp 6] _ = _ by simp only [resultA, resultsA, envOf, val_set, ↓reduceIte, Nat.reduceEqDiff, Option.map_some] <;> rfl), ?_⟩
        try dsimp only
        have hp : wantsF v.k v.n k v.ks.length = ((0), (1), (1)) := by simp [wantsF, hc2, hc3, hc4]
        refine ⟨by rw [hp]; rfl, E1⟩
      · have hc4 := dec_f hB4
        refine w_region ?_
        refine o_rd (r_eq (a := v.k) (b := 45) (by simp only [ev, envOf, val_set, ofValue, ofCell, ↓reduceIte, Nat.reduceEqDiff] <;> rfl) (by simp only [ev, envOf, val_set, ofValue, ofCell, ↓reduceIte, Nat.reduceEqDiff] <;> rfl)) rfl rfl ?_
        refine o_rd (r_assign (by simp only [ev, envOf, val_set, ofValue, ofCell, ↓reduceIte, Nat.reduceEqDiff] <;> rfl)) rfl rfl ?_
        refine o_nil ?_
        refine w_cond (by simp only [ev, envOf, val_set, ofValue, ofCell, ↓reduceIte, Nat.reduceEqDiff] <;> rfl) (fun hB5 => ?_) (fun hB5 => ?_)
        · have hc5 := dec_t hB5
          refine w_seq ?_
          refine w_region ?_
          refine o_rd (r_assign (by simp only [ev, envOf, val_set, ofValue, ofCell, ↓reduceIte, Nat.reduceEqDiff] <;> rfl)) rfl rfl ?_
          refine o_rd (r_assign (by simp only [ev, envOf, val_set, ofValue, ofCell, ↓reduceIte, Nat.reduceEqDiff] <;> rfl)) rfl rfl ?_
          refine o_rd (r_assign (by simp only [ev, envOf, val_set, ofValue, ofCell, ↓reduceIte, Nat.reduceEqDiff] <;> rfl)) rfl rfl ?_
          refine o_nil ?_
          refine w_ret ⟨.inr rfl, rfl, .tup [.int .i64 (0), .int .i64 (1), .int .i64 (1)], (show resultA Tryd.prog [.tmp 4, .tmp 5, .tmp 6] _ = _ by simp only [resultA, resultsA, envOf, val_set, ↓reduceIte, Nat.reduceEqDiff, Option.map_some] <;> rfl), ?_⟩
          try dsimp only
          have hp : wantsF v.k v.n k v.ks.length = ((0), (1), (1)) := by simp [wantsF, hc2, hc3, hc4, hc5]
          refine ⟨by rw [hp]; rfl, E1⟩
        · have hc5 := dec_f hB5
          refine w_seq ?_
          refine w_region ?_
          refine o_rd (r_eq (a := v.k) (b := 5) (by simp only [ev, envOf, val_set, ofValue, ofCell, ↓reduceIte, Nat.reduceEqDiff] <;> rfl) (by simp only [ev, envOf, val_set, ofValue, ofCell, ↓reduceIte, Nat.reduceEqDiff] <;> rfl)) rfl rfl ?_
          refine o_rd (r_assign (by simp only [ev, envOf, val_set, ofValue, ofCell, ↓reduceIte, Nat.reduceEqDiff] <;> rfl)) rfl rfl ?_
          refine o_nil ?_
          refine w_cond (by simp only [ev, envOf, val_set, ofValue, ofCell, ↓reduceIte, Nat.reduceEqDiff] <;> rfl) (fun hB6 => ?_) (fun hB6 => ?_)
          · have hc6 := dec_t hB6
            refine w_seq ?_
            refine w_region ?_
            refine o_rd (r_move (by simp only [ev, envOf, val_set, ofValue, ofCell, ↓reduceIte, Nat.reduceEqDiff] <;> rfl)) rfl rfl ?_
            refine o_rd (r_assign (by simp only [ev, envOf, val_set, ofValue, ofCell, ↓reduceIte, Nat.reduceEqDiff] <;> rfl)) rfl rfl ?_
            refine o_rd (r_assign (by simp only [ev, envOf, val_set, ofValue, ofCell, ↓reduceIte, Nat.reduceEqDiff] <;> rfl)) rfl rfl ?_
            refine o_rd (r_assign (by simp only [ev, envOf, val_set, ofValue, ofCell, ↓reduceIte, Nat.reduceEqDiff] <;> rfl)) rfl rfl ?_
            refine o_nil ?_
            refine w_ret ⟨.inr rfl, rfl, .tup [.int .i64 (0), .int .i64 (2), .int .i64 (((v.ks.length : Nat) : Int))], (show resultA Tryd.prog [.tmp 4, .tmp 5, .tmp 6] _ = _ by simp only [resultA, resultsA, envOf, val_set, ↓reduceIte, Nat.reduceEqDiff, Option.map_some] <;> rfl), ?_⟩
            try dsimp only
            have hp : wantsF v.k v.n k v.ks.length = ((0), (2), (((v.ks.length : Nat) : Int))) := by simp [wantsF, hc2, hc3, hc4, hc5, hc6]
            refine ⟨by rw [hp]; rfl, E1⟩
          · have hc6 := dec_f hB6
            refine w_seq ?_
            refine w_region ?_
            refine o_rd (r_eq (a := v.k) (b := 7) (by simp only [ev, envOf, val_set, ofValue, ofCell, ↓reduceIte, Nat.reduceEqDiff] <;> rfl) (by simp only [ev, envOf, val_set, ofValue, ofCell, ↓reduceIte, Nat.reduceEqDiff] <;> rfl)) rfl rfl ?_
            refine o_rd (r_assign (by simp only [ev, envOf, val_set, ofValue, ofCell, ↓reduceIte, Nat.reduceEqDiff] <;> rfl)) rfl rfl ?_
            refine o_nil ?_
            refine w_cond (by simp only [ev, envOf, val_set, ofValue, ofCell, ↓reduceIte, Nat.reduceEqDiff] <;> rfl) (fun hB7 => ?_) (fun hB7 => ?_)
            · have hc7 := dec_t hB7
              refine w_seq ?_
              refine w_region ?_
              refine o_rd (r_move (by simp only [ev, envOf, val_set, ofValue, ofCell, ↓reduceIte, Nat.reduceEqDiff] <;> rfl)) rfl rfl ?_
              refine o_rd (r_assign (by simp only [ev, envOf, val_set, ofValue, ofCell, ↓reduceIte, Nat.reduceEqDiff] <;> rfl)) rfl rfl ?_
              refine o_rd (r_assign (by simp only [ev, envOf, val_set, ofValue, ofCell, ↓reduceIte, Nat.reduceEqDiff] <;> rfl)) rfl rfl ?_
              refine o_rd (r_assign (by simp only [ev, envOf, val_set, ofValue, ofCell, ↓reduceIte, Nat.reduceEqDiff] <;> rfl)) rfl rfl ?_
              refine o_nil ?_
              refine w_ret ⟨.inr rfl, rfl, .tup [.int .i64 (0), .int .i64 (0), .int .i64 (((v.ks.length : Nat) : Int))], (show resultA Tryd.prog [.tmp 4, .tmp 5, .tmp 6] _ = _ by simp only [resultA, resultsA, envOf, val_set, ↓reduceIte, Nat.reduceEqDiff, Option.map_some] <;> rfl), ?_⟩
              try dsimp only
              have hp : wantsF v.k v.n k v.ks.length = ((0), (0), (((v.ks.length : Nat) : Int))) := by simp [wantsF, hc2, hc3, hc4, hc5, hc6, hc7]
              refine ⟨by rw [hp]; rfl, E1⟩
            · have hc7 := dec_f hB7
              refine w_seq ?_
              refine w_region ?_
              refine o_rd (r_eq (a := v.k) (b := 19) (by simp only [ev, envOf, val_set, ofValue, ofCell, ↓reduceIte, Nat.reduceEqDiff] <;> rfl) (by simp only [ev, envOf, val_set, ofValue, ofCell, ↓reduceIte, Nat.reduceEqDiff] <;> rfl)) rfl rfl ?_
              refine o_rd (r_assign (by simp only [ev, envOf, val_set, ofValue, ofCell, ↓reduceIte, Nat.reduceEqDiff] <;> rfl)) rfl rfl ?_
              refine o_nil ?_
              refine w_cond (by simp only [ev, envOf, val_set, ofValue, ofCell, ↓reduceIte, Nat.reduceEqDiff] <;> rfl) (fun hB8 => ?_) (fun hB8 => ?_)
              · have hc8 := dec_t hB8
                refine w_seq ?_
                refine w_region ?_
                refine o_rd (r_assign (by simp only [ev, envOf, val_set, ofValue, ofCell, ↓reduceIte, Nat.reduceEqDiff] <;> rfl)) rfl rfl ?_
                refine o_rd (r_assign (by simp only [ev, envOf, val_set, ofValue, ofCell, ↓reduceIte, Nat.reduceEqDiff] <;> rfl)) rfl rfl ?_
                refine o_rd (r_assign (by simp only [ev, envOf, val_set, ofValue, ofCell, ↓reduceIte, Nat.reduceEqDiff] <;> rfl)) rfl rfl ?_
                refine o_nil ?_
                refine w_ret ⟨.inr rfl, rfl, .tup [.int .i64 (7), .int .i64 (1), .int .i64 (1)], (show resultA Tryd.prog [.tmp 4, .tmp 5, .tmp 6] _ = _ by simp only [resultA, resultsA, envOf, val_set, ↓reduceIte, Nat.reduceEqDiff, Option.map_some] <;> rfl), ?_⟩
                try dsimp only
                have hp : wantsF v.k v.n k v.ks.length = ((7), (1), (1)) := by simp [wantsF, hc2, hc3, hc4, hc5, hc6, hc7, hc8]
                refine ⟨by rw [hp]; rfl, E1⟩
              · have hc8 := dec_f hB8
                refine w_seq ?_
                refine w_region ?_
                refine o_rd (r_eq (a := v.k) (b := 15) (by simp only [ev, envOf, val_set, ofValue, ofCell, ↓reduceIte, Nat.reduceEqDiff] <;> rfl) (by simp only [ev, envOf, val_set, ofValue, ofCell, ↓reduceIte, Nat.reduceEqDiff] <;> rfl)) rfl rfl ?_
                refine o_rd (r_assign (by simp only [ev, envOf, val_set, ofValue, ofCell, ↓reduceIte, Nat.reduceEqDiff] <;> rfl)) rfl rfl ?_
                refine o_nil ?_
                refine w_cond (by simp only [ev, envOf, val_set, ofValue, ofCell, ↓reduceIte, Nat.reduceEqDiff] <;> rfl) (fun hB9 => ?_) (fun hB9 => ?_)
                · have hc9 := dec_t hB9
                  refine w_seq ?_
                  refine w_region ?_
                  refine o_rd (r_move (by simp only [ev, envOf, val_set, ofValue, ofCell, ↓reduceIte, Nat.reduceEqDiff] <;> rfl)) rfl rfl ?_
                  refine o_rd (r_assign (by simp only [ev, envOf, val_set, ofValue, ofCell, ↓reduceIte, Nat.reduceEqDiff] <;> rfl)) rfl rfl ?_
                  refine o_rd (r_assign (by simp only [ev, envOf, val_set, ofValue, ofCell, ↓reduceIte, Nat.reduceEqDiff] <;> rfl)) rfl rfl ?_
                  refine o_rd (r_assign (by simp only [ev, envOf, val_set, ofValue, ofCell, ↓reduceIte, Nat.reduceEqDiff] <;> rfl)) rfl rfl ?_
                  refine o_nil ?_
                  refine w_ret ⟨.inr rfl, rfl, .tup [.int .i64 (1), .int .i64 (2), .int .i64 (((v.ks.length : Nat) : Int))], (show resultA Tryd.prog [.tmp 4, .tmp 5, .tmp 6] _ = _ by simp only [resultA, resultsA, envOf, val_set, ↓reduceIte, Nat.reduceEqDiff, Option.map_some] <;> rfl), ?_⟩
                  try dsimp only
                  have hp : wantsF v.k v.n k v.ks.length = ((1), (2), (((v.ks.length : Nat) : Int))) := by simp [wantsF, hc2, hc3, hc4, hc5, hc6, hc7, hc8, hc9]
                  refine ⟨by rw [hp]; rfl, E1⟩
                · have hc9 := dec_f hB9
                  refine w_seq ?_
                  refine w_seq ?_
                  refine w_region ?_
                  refine o_rd (r_eq (a := v.k) (b := 16) (by simp only [ev, envOf, val_set, ofValue, ofCell, ↓reduceIte, Nat.reduceEqDiff] <;> rfl) (by simp only [ev, envOf, val_set, ofValue, ofCell, ↓reduceIte, Nat.reduceEqDiff] <;> rfl)) rfl rfl ?_
                  refine o_rd (r_assign (by simp only [ev, envOf, val_set, ofValue, ofCell, ↓reduceIte, Nat.reduceEqDiff] <;> rfl)) rfl rfl ?_
                  refine o_nil ?_
                  refine w_cond (by simp only [ev, envOf, val_set, ofValue, ofCell, ↓reduceIte, Nat.reduceEqDiff] <;> rfl) (fun hB10 => ?_) (fun hB10 => ?_)
                  · have hc10 := dec_t hB10
                    refine w_skip ?_
                    refine w_cond (t := true) (Eq.trans (show _ = some (AV.bool (decide (v.k = 16))) from (by simp only [ev, envOf, val_set, ofValue, ofCell, ↓reduceIte, Nat.reduceEqDiff] <;> rfl)) (by rw [hB10])) (fun _ => ?_) (fun h => by cases h)
                    refine w_seq ?_
                    refine w_region ?_
                    refine o_rd (r_move (by simp only [ev, envOf, val_set, ofValue, ofCell, ↓reduceIte, Nat.reduceEqDiff] <;> rfl)) rfl rfl ?_
                    refine o_rd (r_assign (by simp only [ev, envOf, val_set, ofValue, ofCell, ↓reduceIte, Nat.reduceEqDiff] <;> rfl)) rfl rfl ?_
                    refine o_rd (r_assign (by simp only [ev, envOf, val_set, ofValue, ofCell, ↓reduceIte, Nat.reduceEqDiff] <;> rfl)) rfl rfl ?_
                    refine o_rd (r_assign (by simp only [ev, envOf, val_set, ofValue, ofCell, ↓reduceIte, Nat.reduceEqDiff] <;> rfl)) rfl rfl ?_
                    refine o_nil ?_
                    refine w_ret ⟨.inr rfl, rfl, .tup [.int .i64 (1), .int .i64 (1), .int .i64 (((v.ks.length : Nat) : Int))], (show resultA Tryd.prog [.tmp 4, .tmp 5, .tmp 6] _ = _ by simp only [resultA, resultsA, envOf, val_set, ↓reduceIte, Nat.reduceEqDiff, Option.map_some] <;> rfl), ?_⟩
                    try dsimp only
                    have hp : wantsF v.k v.n k v.ks.length = ((1), (1), (((v.ks.length : Nat) : Int))) := by simp [wantsF, hc2, hc3, hc4, hc5, hc6, hc7, hc8, hc9, hc10]
                    refine ⟨by rw [hp]; rfl, E1⟩
                  · have hc10 := dec_f hB10
                    refine w_region ?_
                    refine o_rd (r_eq (a := v.k) (b := 23) (by simp only [ev, envOf, val_set, ofValue, ofCell, ↓reduceIte, Nat.reduceEqDiff] <;> rfl) (by simp only [ev, envOf, val_set, ofValue, ofCell, ↓reduceIte, Nat.reduceEqDiff] <;> rfl)) rfl rfl ?_
                    refine o_rd (r_assign (by simp only [ev, envOf, val_set, ofValue, ofCell, ↓reduceIte, Nat.reduceEqDiff] <;> rfl)) rfl rfl ?_
                    refine o_nil ?_
                    refine w_cond (by simp only [ev, envOf, val_set, ofValue, ofCell, ↓reduceIte, Nat.reduceEqDiff] <;> rfl) (fun hB11 => ?_) (fun hB11 => ?_)
                    · have hc11 := dec_t hB11
                      refine w_seq ?_
                      refine w_region ?_
                      refine o_rd (r_move (by simp only [ev, envOf, val_set, ofValue, ofCell, ↓reduceIte, Nat.reduceEqDiff] <;> rfl)) rfl rfl ?_
                      refine o_rd (r_assign (by simp only [ev, envOf, val_set, ofValue, ofCell, ↓reduceIte, Nat.reduceEqDiff] <;> rfl)) rfl rfl ?_
                      refine o_rd (r_assign (by simp only [ev, envOf, val_set, ofValue, ofCell, ↓reduceIte, Nat.reduceEqDiff] <;> rfl)) rfl rfl ?_
                      refine o_rd (r_assign (by simp only [ev, envOf, val_set, ofValue, ofCell, ↓reduceIte, Nat.reduceEqDiff] <;> rfl)) rfl rfl ?_
                      refine o_nil ?_
                      refine w_ret ⟨.inr rfl, rfl, .tup [.int .i64 (1), .int .i64 (1), .int .i64 (((v.ks.length : Nat) : Int))], (show resultA Tryd.prog [.tmp 4, .tmp 5, .tmp 6] _ = _ by simp only [resultA, resultsA, envOf, val_set, ↓reduceIte, Nat.reduceEqDiff, Option.map_some] <;> rfl), ?_⟩
                      try dsimp only
                      have hp : wantsF v.k v.n k v.ks.length = ((1), (1), (((v.ks.length : Nat) : Int))) := by simp [wantsF, hc2, hc3, hc4, hc5, hc6, hc7, hc8, hc9, hc10, hc11]
                      refine ⟨by rw [hp]; rfl, E1⟩
                    · have hc11 := dec_f hB11
                      refine w_seq ?_
                      refine w_region ?_
                      refine o_rd (r_eq (a := v.k) (b := 20) (by simp only [ev, envOf, val_set, ofValue, ofCell, ↓reduceIte, Nat.reduceEqDiff] <;> rfl) (by simp only [ev, envOf, val_set, ofValue, ofCell, ↓reduceIte, Nat.reduceEqDiff] <;> rfl)) rfl rfl ?_
                      refine o_rd (r_assign (by simp only [ev, envOf, val_set, ofValue, ofCell, ↓reduceIte, Nat.reduceEqDiff] <;> rfl)) rfl rfl ?_
                      refine o_nil ?_
                      refine w_cond (by simp only [ev, envOf, val_set, ofValue, ofCell, ↓reduceIte, Nat.reduceEqDiff] <;> rfl) (fun hB12 => ?_) (fun hB12 => ?_)
                      · have hc12 := dec_t hB12
                        refine w_seq ?_
                        refine w_region ?_
                        refine o_rd (r_loadN (cs := [.int .i64 (v.k), .int .i64 (v.at_), sk, .str (v.nm), .int .i64 (v.n)]) Ty.agg24 Ty.csz24 (by simp only [ev, envOf, val_set, ofValue, ofCell, ↓reduceIte, Nat.reduceEqDiff] <;> rfl) (read_mt A1 (Nat.le_of_ble_eq_true rfl))) rfl rfl ?_
                        refine o_rd (r_move (by simp only [ev, envOf, val_set, ofValue, ofCell, ↓reduceIte, Nat.reduceEqDiff] <;> rfl)) rfl rfl ?_
                        refine o_cl rfl rfl (by simp only [evs, ev, envOf, val_set, ofValue, ofCell, ↓reduceIte, Nat.reduceEqDiff] <;> rfl) rfl (param_fin ho W1 v sk k (hK.ext E1)) rfl rfl ?_; rintro _ H13 ⟨rfl, X13⟩
                        have W13 := X13.wf; have E13 := E1.trans X13
                        have A1 := X13.keep _ _ A1
                        have n13 := X13.n
                        refine o_rd (r_extract (by simp only [ev, envOf, val_set, ofValue, ofCell, ↓reduceIte, Nat.reduceEqDiff] <;> rfl) rfl) rfl rfl ?_
                        refine o_rd (r_extract (by simp only [ev, envOf, val_set, ofValue, ofCell, ↓reduceIte, Nat.reduceEqDiff] <;> rfl) rfl) rfl rfl ?_
                        refine o_rd (r_extract (by simp only [ev, envOf, val_set, ofValue, ofCell, ↓reduceIte, Nat.reduceEqDiff] <;> rfl) rfl) rfl rfl ?_
                        refine o_rd (r_assign (by simp only [ev, envOf, val_set, ofValue, ofCell, ↓reduceIte, Nat.reduceEqDiff] <;> rfl)) rfl rfl ?_
                        refine o_rd (r_assign (by simp only [ev, envOf, val_set, ofValue, ofCell, ↓reduceIte, Nat.reduceEqDiff] <;> rfl)) rfl rfl ?_
                        refine o_rd (r_assign (by simp only [ev, envOf, val_set, ofValue, ofCell, ↓reduceIte, Nat.reduceEqDiff] <;> rfl)) rfl rfl ?_
                        refine o_nil ?_
                        refine w_ret ⟨.inr rfl, rfl, .tup [.int .i64 ((paramF v.n k v.ks.length).1), .int .i64 ((paramF v.n k v.ks.length).2.1), .int .i64 ((paramF v.n k v.ks.length).2.2)], (show resultA Tryd.prog [.tmp 4, .tmp 5, .tmp 6] _ = _ by simp only [resultA, resultsA, envOf, val_set, ↓reduceIte, Nat.reduceEqDiff, Option.map_some] <;> rfl), ?_⟩
                        try dsimp only
                        have hp : wantsF v.k v.n k v.ks.length = (((paramF v.n k v.ks.length).1), ((paramF v.n k v.ks.length).2.1), ((paramF v.n k v.ks.length).2.2)) := by simp [wantsF, hc2, hc3, hc4, hc5, hc6, hc7, hc8, hc9, hc10, hc11, hc12]
                        refine ⟨by rw [hp]; rfl, E13⟩
                      · have hc12 := dec_f hB12
                        refine w_seq ?_
                        refine w_seq ?_
                        refine w_region ?_
                        refine o_rd (r_eq (a := v.k) (b := 17) (by simp only [ev, envOf, val_set, ofValue, ofCell, ↓reduceIte, Nat.reduceEqDiff] <;> rfl) (by simp only [ev, envOf, val_set, ofValue, ofCell, ↓reduceIte, Nat.reduceEqDiff] <;> rfl)) rfl rfl ?_
                        refine o_rd (r_assign (by simp only [ev, envOf, val_set, ofValue, ofCell, ↓reduceIte, Nat.reduceEqDiff] <;> rfl)) rfl rfl ?_
                        refine o_nil ?_
                        refine w_cond (by simp only [ev, envOf, val_set, ofValue, ofCell, ↓reduceIte, Nat.reduceEqDiff] <;> rfl) (fun hB14 => ?_) (fun hB14 => ?_)
                        · have hc14 := dec_t hB14
                          refine w_skip ?_
                          refine w_cond (t := true) (Eq.trans (show _ = some (AV.bool (decide (v.k = 17))) from (by simp only [ev, envOf, val_set, ofValue, ofCell, ↓reduceIte, Nat.reduceEqDiff] <;> rfl)) (by rw [hB14])) (fun _ => ?_) (fun h => by cases h)
                          refine w_seq ?_
                          refine w_region ?_
                          refine o_rd (r_assign (by simp only [ev, envOf, val_set, ofValue, ofCell, ↓reduceIte, Nat.reduceEqDiff] <;> rfl)) rfl rfl ?_
                          refine o_rd (r_assign (by simp only [ev, envOf, val_set, ofValue, ofCell, ↓reduceIte, Nat.reduceEqDiff] <;> rfl)) rfl rfl ?_
                          refine o_rd (r_assign (by simp only [ev, envOf, val_set, ofValue, ofCell, ↓reduceIte, Nat.reduceEqDiff] <;> rfl)) rfl rfl ?_
                          refine o_nil ?_
                          refine w_ret ⟨.inr rfl, rfl, .tup [.int .i64 (1), .int .i64 (2), .int .i64 (2)], (show resultA Tryd.prog [.tmp 4, .tmp 5, .tmp 6] _ = _ by simp only [resultA, resultsA, envOf, val_set, ↓reduceIte, Nat.reduceEqDiff, Option.map_some] <;> rfl), ?_⟩
                          try dsimp only
                          have hp : wantsF v.k v.n k v.ks.length = ((1), (2), (2)) := by simp [wantsF, hc2, hc3, hc4, hc5, hc6, hc7, hc8, hc9, hc10, hc11, hc12, hc14]
                          refine ⟨by rw [hp]; rfl, E1⟩
                        · have hc14 := dec_f hB14
                          refine w_seq ?_
                          refine w_region ?_
                          refine o_rd (r_eq (a := v.k) (b := 22) (by simp only [ev, envOf, val_set, ofValue, ofCell, ↓reduceIte, Nat.reduceEqDiff] <;> rfl) (by simp only [ev, envOf, val_set, ofValue, ofCell, ↓reduceIte, Nat.reduceEqDiff] <;> rfl)) rfl rfl ?_
                          refine o_rd (r_assign (by simp only [ev, envOf, val_set, ofValue, ofCell, ↓reduceIte, Nat.reduceEqDiff] <;> rfl)) rfl rfl ?_
                          refine o_nil ?_
                          refine w_cond (by simp only [ev, envOf, val_set, ofValue, ofCell, ↓reduceIte, Nat.reduceEqDiff] <;> rfl) (fun hB15 => ?_) (fun hB15 => ?_)
                          · have hc15 := dec_t hB15
                            refine w_skip ?_
                            refine w_cond (t := true) (Eq.trans (show _ = some (AV.bool (decide (v.k = 22))) from (by simp only [ev, envOf, val_set, ofValue, ofCell, ↓reduceIte, Nat.reduceEqDiff] <;> rfl)) (by rw [hB15])) (fun _ => ?_) (fun h => by cases h)
                            refine w_seq ?_
                            refine w_region ?_
                            refine o_rd (r_assign (by simp only [ev, envOf, val_set, ofValue, ofCell, ↓reduceIte, Nat.reduceEqDiff] <;> rfl)) rfl rfl ?_
                            refine o_rd (r_assign (by simp only [ev, envOf, val_set, ofValue, ofCell, ↓reduceIte, Nat.reduceEqDiff] <;> rfl)) rfl rfl ?_
                            refine o_rd (r_assign (by simp only [ev, envOf, val_set, ofValue, ofCell, ↓reduceIte, Nat.reduceEqDiff] <;> rfl)) rfl rfl ?_
                            refine o_nil ?_
                            refine w_ret ⟨.inr rfl, rfl, .tup [.int .i64 (1), .int .i64 (2), .int .i64 (2)], (show resultA Tryd.prog [.tmp 4, .tmp 5, .tmp 6] _ = _ by simp only [resultA, resultsA, envOf, val_set, ↓reduceIte, Nat.reduceEqDiff, Option.map_some] <;> rfl), ?_⟩
                            try dsimp only
                            have hp : wantsF v.k v.n k v.ks.length = ((1), (2), (2)) := by simp [wantsF, hc2, hc3, hc4, hc5, hc6, hc7, hc8, hc9, hc10, hc11, hc12, hc14, hc15]
                            refine ⟨by rw [hp]; rfl, E1⟩
                          · have hc15 := dec_f hB15
                            refine w_seq ?_
                            refine w_region ?_
                            refine o_rd (r_eq (a := v.k) (b := 24) (by simp only [ev, envOf, val_set, ofValue, ofCell, ↓reduceIte, Nat.reduceEqDiff] <;> rfl) (by simp only [ev, envOf, val_set, ofValue, ofCell, ↓reduceIte, Nat.reduceEqDiff] <;> rfl)) rfl rfl ?_
                            refine o_rd (r_assign (by simp only [ev, envOf, val_set, ofValue, ofCell, ↓reduceIte, Nat.reduceEqDiff] <;> rfl)) rfl rfl ?_
                            refine o_nil ?_
                            refine w_cond (by simp only [ev, envOf, val_set, ofValue, ofCell, ↓reduceIte, Nat.reduceEqDiff] <;> rfl) (fun hB16 => ?_) (fun hB16 => ?_)
                            · have hc16 := dec_t hB16
                              refine w_skip ?_
                              refine w_cond (t := true) (Eq.trans (show _ = some (AV.bool (decide (v.k = 24))) from (by simp only [ev, envOf, val_set, ofValue, ofCell, ↓reduceIte, Nat.reduceEqDiff] <;> rfl)) (by rw [hB16])) (fun _ => ?_) (fun h => by cases h)
                              refine w_seq ?_
                              refine w_region ?_
                              refine o_rd (r_assign (by simp only [ev, envOf, val_set, ofValue, ofCell, ↓reduceIte, Nat.reduceEqDiff] <;> rfl)) rfl rfl ?_
                              refine o_rd (r_assign (by simp only [ev, envOf, val_set, ofValue, ofCell, ↓reduceIte, Nat.reduceEqDiff] <;> rfl)) rfl rfl ?_
                              refine o_rd (r_assign (by simp only [ev, envOf, val_set, ofValue, ofCell, ↓reduceIte, Nat.reduceEqDiff] <;> rfl)) rfl rfl ?_
                              refine o_nil ?_
                              refine w_ret ⟨.inr rfl, rfl, .tup [.int .i64 (1), .int .i64 (2), .int .i64 (2)], (show resultA Tryd.prog [.tmp 4, .tmp 5, .tmp 6] _ = _ by simp only [resultA, resultsA, envOf, val_set, ↓reduceIte, Nat.reduceEqDiff, Option.map_some] <;> rfl), ?_⟩
                              try dsimp only
                              have hp : wantsF v.k v.n k v.ks.length = ((1), (2), (2)) := by simp [wantsF, hc2, hc3, hc4, hc5, hc6, hc7, hc8, hc9, hc10, hc11, hc12, hc14, hc15, hc16]
                              refine ⟨by rw [hp]; rfl, E1⟩
                            · have hc16 := dec_f hB16
                              refine w_seq ?_
                              refine w_region ?_
                              refine o_rd (r_eq (a := v.k) (b := 33) (by simp only [ev, envOf, val_set, ofValue, ofCell, ↓reduceIte, Nat.reduceEqDiff] <;> rfl) (by simp only [ev, envOf, val_set, ofValue, ofCell, ↓reduceIte, Nat.reduceEqDiff] <;> rfl)) rfl rfl ?_
                              refine o_rd (r_assign (by simp only [ev, envOf, val_set, ofValue, ofCell, ↓reduceIte, Nat.reduceEqDiff] <;> rfl)) rfl rfl ?_
                              refine o_nil ?_
                              refine w_cond (by simp only [ev, envOf, val_set, ofValue, ofCell, ↓reduceIte, Nat.reduceEqDiff] <;> rfl) (fun hB17 => ?_) (fun hB17 => ?_)
                              · have hc17 := dec_t hB17
                                refine w_skip ?_
                                refine w_cond (t := true) (Eq.trans (show _ = some (AV.bool (decide (v.k = 33))) from (by simp only [ev, envOf, val_set, ofValue, ofCell, ↓reduceIte, Nat.reduceEqDiff] <;> rfl)) (by rw [hB17])) (fun _ => ?_) (fun h => by cases h)
                                refine w_seq ?_
                                refine w_region ?_
                                refine o_rd (r_assign (by simp only [ev, envOf, val_set, ofValue, ofCell, ↓reduceIte, Nat.reduceEqDiff] <;> rfl)) rfl rfl ?_
                                refine o_rd (r_assign (by simp only [ev, envOf, val_set, ofValue, ofCell, ↓reduceIte, Nat.reduceEqDiff] <;> rfl)) rfl rfl ?_
                                refine o_rd (r_assign (by simp only [ev, envOf, val_set, ofValue, ofCell, ↓reduceIte, Nat.reduceEqDiff] <;> rfl)) rfl rfl ?_
                                refine o_nil ?_
                                refine w_ret ⟨.inr rfl, rfl, .tup [.int .i64 (1), .int .i64 (2), .int .i64 (2)], (show resultA Tryd.prog [.tmp 4, .tmp 5, .tmp 6] _ = _ by simp only [resultA, resultsA, envOf, val_set, ↓reduceIte, Nat.reduceEqDiff, Option.map_some] <;> rfl), ?_⟩
                                try dsimp only
                                have hp : wantsF v.k v.n k v.ks.length = ((1), (2), (2)) := by simp [wantsF, hc2, hc3, hc4, hc5, hc6, hc7, hc8, hc9, hc10, hc11, hc12, hc14, hc15, hc16, hc17]
                                refine ⟨by rw [hp]; rfl, E1⟩
                              · have hc17 := dec_f hB17
                                refine w_region ?_
                                refine o_rd (r_eq (a := v.k) (b := 34) (by simp only [ev, envOf, val_set, ofValue, ofCell, ↓reduceIte, Nat.reduceEqDiff] <;> rfl) (by simp only [ev, envOf, val_set, ofValue, ofCell, ↓reduceIte, Nat.reduceEqDiff] <;> rfl)) rfl rfl ?_
                                refine o_rd (r_assign (by simp only [ev, envOf, val_set, ofValue, ofCell, ↓reduceIte, Nat.reduceEqDiff] <;> rfl)) rfl rfl ?_
                                refine o_nil ?_
                                refine w_cond (by simp only [ev, envOf, val_set, ofValue, ofCell, ↓reduceIte, Nat.reduceEqDiff] <;> rfl) (fun hB18 => ?_) (fun hB18 => ?_)
                                · have hc18 := dec_t hB18
                                  refine w_seq ?_
                                  refine w_region ?_
                                  refine o_rd (r_assign (by simp only [ev, envOf, val_set, ofValue, ofCell, ↓reduceIte, Nat.reduceEqDiff] <;> rfl)) rfl rfl ?_
                                  refine o_rd (r_assign (by simp only [ev, envOf, val_set, ofValue, ofCell, ↓reduceIte, Nat.reduceEqDiff] <;> rfl)) rfl rfl ?_
                                  refine o_rd (r_assign (by simp only [ev, envOf, val_set, ofValue, ofCell, ↓reduceIte, Nat.reduceEqDiff] <;> rfl)) rfl rfl ?_
                                  refine o_nil ?_
                                  refine w_ret ⟨.inr rfl, rfl, .tup [.int .i64 (1), .int .i64 (2), .int .i64 (2)], (show resultA Tryd.prog [.tmp 4, .tmp 5, .tmp 6] _ = _ by simp only [resultA, resultsA, envOf, val_set, ↓reduceIte, Nat.reduceEqDiff, Option.map_some] <;> rfl), ?_⟩
                                  try dsimp only
                                  have hp : wantsF v.k v.n k v.ks.length = ((1), (2), (2)) := by simp [wantsF, hc2, hc3, hc4, hc5, hc6, hc7, hc8, hc9, hc10, hc11, hc12, hc14, hc15, hc16, hc17, hc18]
                                  refine ⟨by rw [hp]; rfl, E1⟩
                                · have hc18 := dec_f hB18
                                  refine w_seq ?_
                                  refine w_seq ?_
                                  refine w_region ?_
                                  refine o_rd (r_eq (a := v.k) (b := 14) (by simp only [ev, envOf, val_set, ofValue, ofCell, ↓reduceIte, Nat.reduceEqDiff] <;> rfl) (by simp only [ev, envOf, val_set, ofValue, ofCell, ↓reduceIte, Nat.reduceEqDiff] <;> rfl)) rfl rfl ?_
                                  refine o_rd (r_assign (by simp only [ev, envOf, val_set, ofValue, ofCell, ↓reduceIte, Nat.reduceEqDiff] <;> rfl)) rfl rfl ?_
                                  refine o_nil ?_
                                  refine w_cond (by simp only [ev, envOf, val_set, ofValue, ofCell, ↓reduceIte, Nat.reduceEqDiff] <;> rfl) (fun hB19 => ?_) (fun hB19 => ?_)
                                  · have hc19 := dec_t hB19
                                    refine w_skip ?_
                                    refine w_cond (t := true) (Eq.trans (show _ = some (AV.bool (decide (v.k = 14))) from (by simp only [ev, envOf, val_set, ofValue, ofCell, ↓reduceIte, Nat.reduceEqDiff] <;> rfl)) (by rw [hB19])) (fun _ => ?_) (fun h => by cases h)
                                    refine w_seq ?_
                                    refine w_region ?_
                                    refine o_rd (r_assign (by simp only [ev, envOf, val_set, ofValue, ofCell, ↓reduceIte, Nat.reduceEqDiff] <;> rfl)) rfl rfl ?_
                                    refine o_rd (r_assign (by simp only [ev, envOf, val_set, ofValue, ofCell, ↓reduceIte, Nat.reduceEqDiff] <;> rfl)) rfl rfl ?_
                                    refine o_rd (r_assign (by simp only [ev, envOf, val_set, ofValue, ofCell, ↓reduceIte, Nat.reduceEqDiff] <;> rfl)) rfl rfl ?_
                                    refine o_nil ?_
                                    refine w_ret ⟨.inr rfl, rfl, .tup [.int .i64 (1), .int .i64 (1), .int .i64 (1)], (show resultA Tryd.prog [.tmp 4, .tmp 5, .tmp 6] _ = _ by simp only [resultA, resultsA, envOf, val_set, ↓reduceIte, Nat.reduceEqDiff, Option.map_some] <;> rfl), ?_⟩
                                    try dsimp only
                                    have hp : wantsF v.k v.n k v.ks.length = ((1), (1), (1)) := by simp [wantsF, hc2, hc3, hc4, hc5, hc6, hc7, hc8, hc9, hc10, hc11, hc12, hc14, hc15, hc16, hc17, hc18, hc19]
                                    refine ⟨by rw [hp]; rfl, E1⟩
                                  · have hc19 := dec_f hB19
                                    refine w_seq ?_
                                    refine w_region ?_
                                    refine o_rd (r_eq (a := v.k) (b := 18) (by simp only [ev, envOf, val_set, ofValue, ofCell, ↓reduceIte, Nat.reduceEqDiff] <;> rfl) (by simp only [ev, envOf, val_set, ofValue, ofCell, ↓reduceIte, Nat.reduceEqDiff] <;> rfl)) rfl rfl ?_
                                    refine o_rd (r_assign (by simp only [ev, envOf, val_set, ofValue, ofCell, ↓reduceIte, Nat.reduceEqDiff] <;> rfl)) rfl rfl ?_
                                    refine o_nil ?_
                                    refine w_cond (by simp only [ev, envOf, val_set, ofValue, ofCell, ↓reduceIte, Nat.reduceEqDiff] <;> rfl) (fun hB20 => ?_) (fun hB20 => ?_)
                                    · have hc20 := dec_t hB20
                                      refine w_skip ?_
                                      refine w_cond (t := true) (Eq.trans (show _ = some (AV.bool (decide (v.k = 18))) from (by simp only [ev, envOf, val_set, ofValue, ofCell, ↓reduceIte, Nat.reduceEqDiff] <;> rfl)) (by rw [hB20])) (fun _ => ?_) (fun h => by cases h)
                                      refine w_seq ?_
                                      refine w_region ?_
                                      refine o_rd (r_assign (by simp only [ev, envOf, val_set, ofValue, ofCell, ↓reduceIte, Nat.reduceEqDiff] <;> rfl)) rfl rfl ?_
                                      refine o_rd (r_assign (by simp only [ev, envOf, val_set, ofValue, ofCell, ↓reduceIte, Nat.reduceEqDiff] <;> rfl)) rfl rfl ?_
                                      refine o_rd (r_assign (by simp only [ev, envOf, val_set, ofValue, ofCell, ↓reduceIte, Nat.reduceEqDiff] <;> rfl)) rfl rfl ?_
                                      refine o_nil ?_
                                      refine w_ret ⟨.inr rfl, rfl, .tup [.int .i64 (1), .int .i64 (1), .int .i64 (1)], (show resultA Tryd.prog [.tmp 4, .tmp 5, .tmp 6] _ = _ by simp only [resultA, resultsA, envOf, val_set, ↓reduceIte, Nat.reduceEqDiff, Option.map_some] <;> rfl), ?_⟩
                                      try dsimp only
                                      have hp : wantsF v.k v.n k v.ks.length = ((1), (1), (1)) := by simp [wantsF, hc2, hc3, hc4, hc5, hc6, hc7, hc8, hc9, hc10, hc11, hc12, hc14, hc15, hc16, hc17, hc18, hc19, hc20]
                                      refine ⟨by rw [hp]; rfl, E1⟩
                                    · have hc20 := dec_f hB20
                                      refine w_seq ?_
                                      refine w_region ?_
                                      refine o_rd (r_eq (a := v.k) (b := 21) (by simp only [ev, envOf, val_set, ofValue, ofCell, ↓reduceIte, Nat.reduceEqDiff] <;> rfl) (by simp only [ev, envOf, val_set, ofValue, ofCell, ↓reduceIte, Nat.reduceEqDiff] <;> rfl)) rfl rfl ?_
                                      refine o_rd (r_assign (by simp only [ev, envOf, val_set, ofValue, ofCell, ↓reduceIte, Nat.reduceEqDiff] <;> rfl)) rfl rfl ?_
                                      refine o_nil ?_
                                      refine w_cond (by simp only [ev, envOf, val_set, ofValue, ofCell, ↓reduceIte, Nat.reduceEqDiff] <;> rfl) (fun hB21 => ?_) (fun hB21 => ?_)
                                      · have hc21 := dec_t hB21
                                        refine w_skip ?_
                                        refine w_cond (t := true) (Eq.trans (show _ = some (AV.bool (decide (v.k = 21))) from (by simp only [ev, envOf, val_set, ofValue, ofCell, ↓reduceIte, Nat.reduceEqDiff] <;> rfl)) (by rw [hB21])) (fun _ => ?_) (fun h => by cases h)
                                        refine w_seq ?_
                                        refine w_region ?_
                                        refine o_rd (r_assign (by simp only [ev, envOf, val_set, ofValue, ofCell, ↓reduceIte, Nat.reduceEqDiff] <;> rfl)) rfl rfl ?_
                                        refine o_rd (r_assign (by simp only [ev, envOf, val_set, ofValue, ofCell, ↓reduceIte, Nat.reduceEqDiff] <;> rfl)) rfl rfl ?_
                                        refine o_rd (r_assign (by simp only [ev, envOf, val_set, ofValue, ofCell, ↓reduceIte, Nat.reduceEqDiff] <;> rfl)) rfl rfl ?_
                                        refine o_nil ?_
                                        refine w_ret ⟨.inr rfl, rfl, .tup [.int .i64 (1), .int .i64 (1), .int .i64 (1)], (show resultA Tryd.prog [.tmp 4, .tmp 5, .tmp 6] _ = _ by simp only [resultA, resultsA, envOf, val_set, ↓reduceIte, Nat.reduceEqDiff, Option.map_some] <;> rfl), ?_⟩
                                        try dsimp only
                                        have hp : wantsF v.k v.n k v.ks.length = ((1), (1), (1)) := by simp [wantsF, hc2, hc3, hc4, hc5, hc6, hc7, hc8, hc9, hc10, hc11, hc12, hc14, hc15, hc16, hc17, hc18, hc19, hc20, hc21]
                                        refine ⟨by rw [hp]; rfl, E1⟩
                                      · have hc21 := dec_f hB21
                                        refine w_seq ?_
                                        refine w_region ?_
                                        refine o_rd (r_eq (a := v.k) (b := 25) (by simp only [ev, envOf, val_set, ofValue, ofCell, ↓reduceIte, Nat.reduceEqDiff] <;> rfl) (by simp only [ev, envOf, val_set, ofValue, ofCell, ↓reduceIte, Nat.reduceEqDiff] <;> rfl)) rfl rfl ?_
                                        refine o_rd (r_assign (by simp only [ev, envOf, val_set, ofValue, ofCell, ↓reduceIte, Nat.reduceEqDiff] <;> rfl)) rfl rfl ?_
                                        refine o_nil ?_
                                        refine w_cond (by simp only [ev, envOf, val_set, ofValue, ofCell, ↓reduceIte, Nat.reduceEqDiff] <;> rfl) (fun hB22 => ?_) (fun hB22 => ?_)
                                        · have hc22 := dec_t hB22
                                          refine w_skip ?_
                                          refine w_cond (t := true) (Eq.trans (show _ = some (AV.bool (decide (v.k = 25))) from (by simp only [ev, envOf, val_set, ofValue, ofCell, ↓reduceIte, Nat.reduceEqDiff] <;> rfl)) (by rw [hB22])) (fun _ => ?_) (fun h => by cases h)
                                          refine w_seq ?_
                                          refine w_region ?_
                                          refine o_rd (r_assign (by simp only [ev, envOf, val_set, ofValue, ofCell, ↓reduceIte, Nat.reduceEqDiff] <;> rfl)) rfl rfl ?_
                                          refine o_rd (r_assign (by simp only [ev, envOf, val_set, ofValue, ofCell, ↓reduceIte, Nat.reduceEqDiff] <;> rfl)) rfl rfl ?_
                                          refine o_rd (r_assign (by simp only [ev, envOf, val_set, ofValue, ofCell, ↓reduceIte, Nat.reduceEqDiff] <;> rfl)) rfl rfl ?_
                                          refine o_nil ?_
                                          refine w_ret ⟨.inr rfl, rfl, .tup [.int .i64 (1), .int .i64 (1), .int .i64 (1)], (show resultA Tryd.prog [.tmp 4, .tmp 5, .tmp 6] _ = _ by simp only [resultA, resultsA, envOf, val_set, ↓reduceIte, Nat.reduceEqDiff, Option.map_some] <;> rfl), ?_⟩
                                          try dsimp only
                                          have hp : wantsF v.k v.n k v.ks.length = ((1), (1), (1)) := by simp [wantsF, hc2, hc3, hc4, hc5, hc6, hc7, hc8, hc9, hc10, hc11, hc12, hc14, hc15, hc16, hc17, hc18, hc19, hc20, hc21, hc22]
                                          refine ⟨by rw [hp]; rfl, E1⟩
                                        · have hc22 := dec_f hB22
                                          refine w_seq ?_
                                          refine w_region ?_
                                          refine o_rd (r_eq (a := v.k) (b := 31) (by simp only [ev, envOf, val_set, ofValue, ofCell, ↓reduceIte, Nat.reduceEqDiff] <;> rfl) (by simp only [ev, envOf, val_set, ofValue, ofCell, ↓reduceIte, Nat.reduceEqDiff] <;> rfl)) rfl rfl ?_
                                          refine o_rd (r_assign (by simp only [ev, envOf, val_set, ofValue, ofCell, ↓reduceIte, Nat.reduceEqDiff] <;> rfl)) rfl rfl ?_
                                          refine o_nil ?_
                                          refine w_cond (by simp only [ev, envOf, val_set, ofValue, ofCell, ↓reduceIte, Nat.reduceEqDiff] <;> rfl) (fun hB23 => ?_) (fun hB23 => ?_)
                                          · have hc23 := dec_t hB23
                                            refine w_skip ?_
                                            refine w_cond (t := true) (Eq.trans (show _ = some (AV.bool (decide (v.k = 31))) from (by simp only [ev, envOf, val_set, ofValue, ofCell, ↓reduceIte, Nat.reduceEqDiff] <;> rfl)) (by rw [hB23])) (fun _ => ?_) (fun h => by cases h)
                                            refine w_seq ?_
                                            refine w_region ?_
                                            refine o_rd (r_assign (by simp only [ev, envOf, val_set, ofValue, ofCell, ↓reduceIte, Nat.reduceEqDiff] <;> rfl)) rfl rfl ?_
                                            refine o_rd (r_assign (by simp only [ev, envOf, val_set, ofValue, ofCell, ↓reduceIte, Nat.reduceEqDiff] <;> rfl)) rfl rfl ?_
                                            refine o_rd (r_assign (by simp only [ev, envOf, val_set, ofValue, ofCell, ↓reduceIte, Nat.reduceEqDiff] <;> rfl)) rfl rfl ?_
                                            refine o_nil ?_
                                            refine w_ret ⟨.inr rfl, rfl, .tup [.int .i64 (1), .int .i64 (1), .int .i64 (1)], (show resultA Tryd.prog [.tmp 4, .tmp 5, .tmp 6] _ = _ by simp only [resultA, resultsA, envOf, val_set, ↓reduceIte, Nat.reduceEqDiff, Option.map_some] <;> rfl), ?_⟩
                                            try dsimp only
                                            have hp : wantsF v.k v.n k v.ks.length = ((1), (1), (1)) := by simp [wantsF, hc2, hc3, hc4, hc5, hc6, hc7, hc8, hc9, hc10, hc11, hc12, hc14, hc15, hc16, hc17, hc18, hc19, hc20, hc21, hc22, hc23]
                                            refine ⟨by rw [hp]; rfl, E1⟩
                                          · have hc23 := dec_f hB23
                                            refine w_seq ?_
                                            refine w_region ?_
                                            refine o_rd (r_eq (a := v.k) (b := 35) (by simp only [ev, envOf, val_set, ofValue, ofCell, ↓reduceIte, Nat.reduceEqDiff] <;> rfl) (by simp only [ev, envOf, val_set, ofValue, ofCell, ↓reduceIte, Nat.reduceEqDiff] <;> rfl)) rfl rfl ?_
                                            refine o_rd (r_assign (by simp only [ev, envOf, val_set, ofValue, ofCell, ↓reduceIte, Nat.reduceEqDiff] <;> rfl)) rfl rfl ?_
                                            refine o_nil ?_
                                            refine w_cond (by simp only [ev, envOf, val_set, ofValue, ofCell, ↓reduceIte, Nat.reduceEqDiff] <;> rfl) (fun hB24 => ?_) (fun hB24 => ?_)
                                            · have hc24 := dec_t hB24
                                              refine w_skip ?_
                                              refine w_cond (t := true) (Eq.trans (show _ = some (AV.bool (decide (v.k = 35))) from (by simp only [ev, envOf, val_set, ofValue, ofCell, ↓reduceIte, Nat.reduceEqDiff] <;> rfl)) (by rw [hB24])) (fun _ => ?_) (fun h => by cases h)
                                              refine w_seq ?_
                                              refine w_region ?_
                                              refine o_rd (r_assign (by simp only [ev, envOf, val_set, ofValue, ofCell, ↓reduceIte, Nat.reduceEqDiff] <;> rfl)) rfl rfl ?_
                                              refine o_rd (r_assign (by simp only [ev, envOf, val_set, ofValue, ofCell, ↓reduceIte, Nat.reduceEqDiff] <;> rfl)) rfl rfl ?_
                                              refine o_rd (r_assign (by simp only [ev, envOf, val_set, ofValue, ofCell, ↓reduceIte, Nat.reduceEqDiff] <;> rfl)) rfl rfl ?_
                                              refine o_nil ?_
                                              refine w_ret ⟨.inr rfl, rfl, .tup [.int .i64 (1), .int .i64 (1), .int .i64 (1)], (show resultA Tryd.prog [.tmp 4, .tmp 5, .tmp 6] _ = _ by simp only [resultA, resultsA, envOf, val_set, ↓reduceIte, Nat.reduceEqDiff, Option.map_some] <;> rfl), ?_⟩
                                              try dsimp only
                                              have hp : wantsF v.k v.n k v.ks.length = ((1), (1), (1)) := by simp [wantsF, hc2, hc3, hc4, hc5, hc6, hc7, hc8, hc9, hc10, hc11, hc12, hc14, hc15, hc16, hc17, hc18, hc19, hc20, hc21, hc22, hc23, hc24]
                                              refine ⟨by rw [hp]; rfl, E1⟩
                                            · have hc24 := dec_f hB24
                                              refine w_region ?_
                                              refine o_rd (r_eq (a := v.k) (b := 39) (by simp only [ev, envOf, val_set, ofValue, ofCell, ↓reduceIte, Nat.reduceEqDiff] <;> rfl) (by simp only [ev, envOf, val_set, ofValue, ofCell, ↓reduceIte, Nat.reduceEqDiff] <;> rfl)) rfl rfl ?_
                                              refine o_rd (r_assign (by simp only [ev, envOf, val_set, ofValue, ofCell, ↓reduceIte, Nat.reduceEqDiff] <;> rfl)) rfl rfl ?_
                                              refine o_nil ?_
                                              refine w_cond (by simp only [ev, envOf, val_set, ofValue, ofCell, ↓reduceIte, Nat.reduceEqDiff] <;> rfl) (fun hB25 => ?_) (fun hB25 => ?_)
                                              · have hc25 := dec_t hB25
                                                refine w_seq ?_
                                                refine w_region ?_
                                                refine o_rd (r_assign (by simp only [ev, envOf, val_set, ofValue, ofCell, ↓reduceIte, Nat.reduceEqDiff] <;> rfl)) rfl rfl ?_
                                                refine o_rd (r_assign (by simp only [ev, envOf, val_set, ofValue, ofCell, ↓reduceIte, Nat.reduceEqDiff] <;> rfl)) rfl rfl ?_
                                                refine o_rd (r_assign (by simp only [ev, envOf, val_set, ofValue, ofCell, ↓reduceIte, Nat.reduceEqDiff] <;> rfl)) rfl rfl ?_
                                                refine o_nil ?_
                                                refine w_ret ⟨.inr rfl, rfl, .tup [.int .i64 (1), .int .i64 (1), .int .i64 (1)], (show resultA Tryd.prog [.tmp 4, .tmp 5, .tmp 6] _ = _ by simp only [resultA, resultsA, envOf, val_set, ↓reduceIte, Nat.reduceEqDiff, Option.map_some] <;> rfl), ?_⟩
                                                try dsimp only
                                                have hp : wantsF v.k v.n k v.ks.length = ((1), (1), (1)) := by simp [wantsF, hc2, hc3, hc4, hc5, hc6, hc7, hc8, hc9, hc10, hc11, hc12, hc14, hc15, hc16, hc17, hc18, hc19, hc20, hc21, hc22, hc23, hc24, hc25]
                                                refine ⟨by rw [hp]; rfl, E1⟩
                                              · have hc25 := dec_f hB25
                                                refine w_seq ?_
                                                refine w_region ?_
                                                refine o_rd (r_eq (a := v.k) (b := 38) (by simp only [ev, envOf, val_set, ofValue, ofCell, ↓reduceIte, Nat.reduceEqDiff] <;> rfl) (by simp only [ev, envOf, val_set, ofValue, ofCell, ↓reduceIte, Nat.reduceEqDiff] <;> rfl)) rfl rfl ?_
                                                refine o_rd (r_assign (by simp only [ev, envOf, val_set, ofValue, ofCell, ↓reduceIte, Nat.reduceEqDiff] <;> rfl)) rfl rfl ?_
                                                refine o_nil ?_
                                                refine w_cond (by simp only [ev, envOf, val_set, ofValue, ofCell, ↓reduceIte, Nat.reduceEqDiff] <;> rfl) (fun hB26 => ?_) (fun hB26 => ?_)
                                                · have hc26 := dec_t hB26
                                                  refine w_seq ?_
                                                  refine w_region ?_
                                                  refine o_rd (r_assign (by simp only [ev, envOf, val_set, ofValue, ofCell, ↓reduceIte, Nat.reduceEqDiff] <;> rfl)) rfl rfl ?_
                                                  refine o_rd (r_assign (by simp only [ev, envOf, val_set, ofValue, ofCell, ↓reduceIte, Nat.reduceEqDiff] <;> rfl)) rfl rfl ?_
                                                  refine o_rd (r_assign (by simp only [ev, envOf, val_set, ofValue, ofCell, ↓reduceIte, Nat.reduceEqDiff] <;> rfl)) rfl rfl ?_
                                                  refine o_nil ?_
                                                  refine w_ret ⟨.inr rfl, rfl, .tup [.int .i64 (1), .int .i64 (0), .int .i64 (1)], (show resultA Tryd.prog [.tmp 4, .tmp 5, .tmp 6] _ = _ by simp only [resultA, resultsA, envOf, val_set, ↓reduceIte, Nat.reduceEqDiff, Option.map_some] <;> rfl), ?_⟩
                                                  try dsimp only
                                                  have hp : wantsF v.k v.n k v.ks.length = ((1), (0), (1)) := by simp [wantsF, hc2, hc3, hc4, hc5, hc6, hc7, hc8, hc9, hc10, hc11, hc12, hc14, hc15, hc16, hc17, hc18, hc19, hc20, hc21, hc22, hc23, hc24, hc25, hc26]
                                                  refine ⟨by rw [hp]; rfl, E1⟩
                                                · have hc26 := dec_f hB26
                                                  refine w_seq ?_
                                                  refine w_region ?_
                                                  refine o_rd (r_eq (a := v.k) (b := 32) (by simp only [ev, envOf, val_set, ofValue, ofCell, ↓reduceIte, Nat.reduceEqDiff] <;> rfl) (by simp only [ev, envOf, val_set, ofValue, ofCell, ↓reduceIte, Nat.reduceEqDiff] <;> rfl)) rfl rfl ?_
                                                  refine o_rd (r_assign (by simp only [ev, envOf, val_set, ofValue, ofCell, ↓reduceIte, Nat.reduceEqDiff] <;> rfl)) rfl rfl ?_
                                                  refine o_nil ?_
                                                  refine w_cond (by simp only [ev, envOf, val_set, ofValue, ofCell, ↓reduceIte, Nat.reduceEqDiff] <;> rfl) (fun hB27 => ?_) (fun hB27 => ?_)
                                                  · have hc27 := dec_t hB27
                                                    refine w_seq ?_
                                                    refine w_seq ?_
                                                    refine w_region ?_
                                                    refine o_rd (r_move (by simp only [ev, envOf, val_set, ofValue, ofCell, ↓reduceIte, Nat.reduceEqDiff] <;> rfl)) rfl rfl ?_
                                                    refine o_rd (r_eq (a := k) (b := 0) (by simp only [ev, envOf, val_set, ofValue, ofCell, ↓reduceIte, Nat.reduceEqDiff] <;> rfl) (by simp only [ev, envOf, val_set, ofValue, ofCell, ↓reduceIte, Nat.reduceEqDiff] <;> rfl)) rfl rfl ?_
                                                    refine o_nil ?_
                                                    refine w_cond (by simp only [ev, envOf, val_set, ofValue, ofCell, ↓reduceIte, Nat.reduceEqDiff] <;> rfl) (fun hB28 => ?_) (fun hB28 => ?_)
                                                    · have hc28 := dec_t hB28
                                                      refine w_seq ?_
                                                      refine w_region ?_
                                                      refine o_rd (r_assign (by simp only [ev, envOf, val_set, ofValue, ofCell, ↓reduceIte, Nat.reduceEqDiff] <;> rfl)) rfl rfl ?_
                                                      refine o_rd (r_assign (by simp only [ev, envOf, val_set, ofValue, ofCell, ↓reduceIte, Nat.reduceEqDiff] <;> rfl)) rfl rfl ?_
                                                      refine o_rd (r_assign (by simp only [ev, envOf, val_set, ofValue, ofCell, ↓reduceIte, Nat.reduceEqDiff] <;> rfl)) rfl rfl ?_
                                                      refine o_nil ?_
                                                      refine w_ret ⟨.inr rfl, rfl, .tup [.int .i64 (0), .int .i64 (1), .int .i64 (2)], (show resultA Tryd.prog [.tmp 4, .tmp 5, .tmp 6] _ = _ by simp only [resultA, resultsA, envOf, val_set, ↓reduceIte, Nat.reduceEqDiff, Option.map_some] <;> rfl), ?_⟩
                                                      try dsimp only
                                                      have hp : wantsF v.k v.n k v.ks.length = ((0), (1), (2)) := by simp [wantsF, hc2, hc3, hc4, hc5, hc6, hc7, hc8, hc9, hc10, hc11, hc12, hc14, hc15, hc16, hc17, hc18, hc19, hc20, hc21, hc22, hc23, hc24, hc25, hc26, hc27, hc28]
                                                      refine ⟨by rw [hp]; rfl, E1⟩
                                                    · have hc28 := dec_f hB28
                                                      refine w_skip ?_
                                                      refine w_seq ?_
                                                      refine w_region ?_
                                                      refine o_rd (r_assign (by simp only [ev, envOf, val_set, ofValue, ofCell, ↓reduceIte, Nat.reduceEqDiff] <;> rfl)) rfl rfl ?_
                                                      refine o_rd (r_assign (by simp only [ev, envOf, val_set, ofValue, ofCell, ↓reduceIte, Nat.reduceEqDiff] <;> rfl)) rfl rfl ?_
                                                      refine o_rd (r_assign (by simp only [ev, envOf, val_set, ofValue, ofCell, ↓reduceIte, Nat.reduceEqDiff] <;> rfl)) rfl rfl ?_
                                                      refine o_nil ?_
                                                      refine w_ret ⟨.inr rfl, rfl, .tup [.int .i64 (1), .int .i64 (1), .int .i64 (2)], (show resultA Tryd.prog [.tmp 4, .tmp 5, .tmp 6] _ = _ by simp only [resultA, resultsA, envOf, val_set, ↓reduceIte, Nat.reduceEqDiff, Option.map_some] <;> rfl), ?_⟩
                                                      try dsimp only
                                                      have hp : wantsF v.k v.n k v.ks.length = ((1), (1), (2)) := by simp [wantsF, hc2, hc3, hc4, hc5, hc6, hc7, hc8, hc9, hc10, hc11, hc12, hc14, hc15, hc16, hc17, hc18, hc19, hc20, hc21, hc22, hc23, hc24, hc25, hc26, hc27, hc28]
                                                      refine ⟨by rw [hp]; rfl, E1⟩
                                                  · have hc27 := dec_f hB27
                                                    refine w_seq ?_
                                                    refine w_region ?_
                                                    refine o_rd (r_eq (a := v.k) (b := 40) (by simp only [ev, envOf, val_set, ofValue, ofCell, ↓reduceIte, Nat.reduceEqDiff] <;> rfl) (by simp only [ev, envOf, val_set, ofValue, ofCell, ↓reduceIte, Nat.reduceEqDiff] <;> rfl)) rfl rfl ?_
                                                    refine o_rd (r_assign (by simp only [ev, envOf, val_set, ofValue, ofCell, ↓reduceIte, Nat.reduceEqDiff] <;> rfl)) rfl rfl ?_
                                                    refine o_nil ?_
                                                    refine w_cond (by simp only [ev, envOf, val_set, ofValue, ofCell, ↓reduceIte, Nat.reduceEqDiff] <;> rfl) (fun hB29 => ?_) (fun hB29 => ?_)
                                                    · have hc29 := dec_t hB29
                                                      refine w_seq ?_
                                                      refine w_region ?_
                                                      refine o_rd (r_move (by simp only [ev, envOf, val_set, ofValue, ofCell, ↓reduceIte, Nat.reduceEqDiff] <;> rfl)) rfl rfl ?_
                                                      refine o_rd (r_assign (by simp only [ev, envOf, val_set, ofValue, ofCell, ↓reduceIte, Nat.reduceEqDiff] <;> rfl)) rfl rfl ?_
                                                      refine o_rd (r_assign (by simp only [ev, envOf, val_set, ofValue, ofCell, ↓reduceIte, Nat.reduceEqDiff] <;> rfl)) rfl rfl ?_
                                                      refine o_rd (r_assign (by simp only [ev, envOf, val_set, ofValue, ofCell, ↓reduceIte, Nat.reduceEqDiff] <;> rfl)) rfl rfl ?_
                                                      refine o_nil ?_
                                                      refine w_ret ⟨.inr rfl, rfl, .tup [.int .i64 (5), .int .i64 (0), .int .i64 (((v.ks.length : Nat) : Int))], (show resultA Tryd.prog [.tmp 4, .tmp 5, .tmp 6] _ = _ by simp only [resultA, resultsA, envOf, val_set, ↓reduceIte, Nat.reduceEqDiff, Option.map_some] <;> rfl), ?_⟩
                                                      try dsimp only
                                                      have hp : wantsF v.k v.n k v.ks.length = ((5), (0), (((v.ks.length : Nat) : Int))) := by simp [wantsF, hc2, hc3, hc4, hc5, hc6, hc7, hc8, hc9, hc10, hc11, hc12, hc14, hc15, hc16, hc17, hc18, hc19, hc20, hc21, hc22, hc23, hc24, hc25, hc26, hc27, hc29]
                                                      refine ⟨by rw [hp]; rfl, E1⟩
                                                    · have hc29 := dec_f hB29
                                                      refine w_seq ?_
                                                      refine w_region ?_
                                                      refine o_rd (r_eq (a := v.k) (b := 41) (by simp only [ev, envOf, val_set, ofValue, ofCell, ↓reduceIte, Nat.reduceEqDiff] <;> rfl) (by simp only [ev, envOf, val_set, ofValue, ofCell, ↓reduceIte, Nat.reduceEqDiff] <;> rfl)) rfl rfl ?_
                                                      refine o_rd (r_assign (by simp only [ev, envOf, val_set, ofValue, ofCell, ↓reduceIte, Nat.reduceEqDiff] <;> rfl)) rfl rfl ?_
                                                      refine o_nil ?_
                                                      refine w_cond (by simp only [ev, envOf, val_set, ofValue, ofCell, ↓reduceIte, Nat.reduceEqDiff] <;> rfl) (fun hB30 => ?_) (fun hB30 => ?_)
                                                      · have hc30 := dec_t hB30
                                                        refine w_seq ?_
                                                        refine w_region ?_
                                                        refine o_rd (r_move (by simp only [ev, envOf, val_set, ofValue, ofCell, ↓reduceIte, Nat.reduceEqDiff] <;> rfl)) rfl rfl ?_
                                                        refine o_rd (r_assign (by simp only [ev, envOf, val_set, ofValue, ofCell, ↓reduceIte, Nat.reduceEqDiff] <;> rfl)) rfl rfl ?_
                                                        refine o_rd (r_assign (by simp only [ev, envOf, val_set, ofValue, ofCell, ↓reduceIte, Nat.reduceEqDiff] <;> rfl)) rfl rfl ?_
                                                        refine o_rd (r_assign (by simp only [ev, envOf, val_set, ofValue, ofCell, ↓reduceIte, Nat.reduceEqDiff] <;> rfl)) rfl rfl ?_
                                                        refine o_nil ?_
                                                        refine w_ret ⟨.inr rfl, rfl, .tup [.int .i64 (2), .int .i64 (0), .int .i64 (((v.ks.length : Nat) : Int))], (show resultA Tryd.prog [.tmp 4, .tmp 5, .tmp 6] _ = _ by simp only [resultA, resultsA, envOf, val_set, ↓reduceIte, Nat.reduceEqDiff, Option.map_some] <;> rfl), ?_⟩
                                                        try dsimp only
                                                        have hp : wantsF v.k v.n k v.ks.length = ((2), (0), (((v.ks.length : Nat) : Int))) := by simp [wantsF, hc2, hc3, hc4, hc5, hc6, hc7, hc8, hc9, hc10, hc11, hc12, hc14, hc15, hc16, hc17, hc18, hc19, hc20, hc21, hc22, hc23, hc24, hc25, hc26, hc27, hc29, hc30]
                                                        refine ⟨by rw [hp]; rfl, E1⟩
                                                      · have hc30 := dec_f hB30
                                                        refine w_seq ?_
                                                        refine w_region ?_
                                                        refine o_rd (r_eq (a := v.k) (b := 46) (by simp only [ev, envOf, val_set, ofValue, ofCell, ↓reduceIte, Nat.reduceEqDiff] <;> rfl) (by simp only [ev, envOf, val_set, ofValue, ofCell, ↓reduceIte, Nat.reduceEqDiff] <;> rfl)) rfl rfl ?_
                                                        refine o_rd (r_assign (by simp only [ev, envOf, val_set, ofValue, ofCell, ↓reduceIte, Nat.reduceEqDiff] <;> rfl)) rfl rfl ?_
                                                        refine o_nil ?_
                                                        refine w_cond (by simp only [ev, envOf, val_set, ofValue, ofCell, ↓reduceIte, Nat.reduceEqDiff] <;> rfl) (fun hB31 => ?_) (fun hB31 => ?_)
                                                        · have hc31 := dec_t hB31
                                                          refine w_seq ?_
                                                          refine w_seq ?_
                                                          refine w_region ?_
                                                          refine o_rd (r_move (by simp only [ev, envOf, val_set, ofValue, ofCell, ↓reduceIte, Nat.reduceEqDiff] <;> rfl)) rfl rfl ?_
                                                          refine o_rd (r_fieldAddr Ty.fo24_4 (by simp only [ev, envOf, val_set, ofValue, ofCell, ↓reduceIte, Nat.reduceEqDiff] <;> rfl)) rfl rfl ?_
                                                          refine o_rd (r_load1 (v := .int .i64 (v.n)) Ty.agg3 (by simp only [ev, envOf, val_set, ofValue, ofCell, ↓reduceIte, Nat.reduceEqDiff] <;> rfl) (read_mt A1 (Nat.le_of_ble_eq_true rfl))) rfl rfl ?_
                                                          refine o_rd (r_lt (a := k) (b := v.n) (by simp only [ev, envOf, val_set, ofValue, ofCell, ↓reduceIte, Nat.reduceEqDiff] <;> rfl) (by simp only [ev, envOf, val_set, ofValue, ofCell, ↓reduceIte, Nat.reduceEqDiff] <;> rfl)) rfl rfl ?_
                                                          refine o_nil ?_
                                                          refine w_cond (by simp only [ev, envOf, val_set, ofValue, ofCell, ↓reduceIte, Nat.reduceEqDiff] <;> rfl) (fun hB32 => ?_) (fun hB32 => ?_)
                                                          · have hc32 := dec_t hB32
                                                            refine w_seq ?_
                                                            refine w_region ?_
                                                            refine o_rd (r_move (by simp only [ev, envOf, val_set, ofValue, ofCell, ↓reduceIte, Nat.reduceEqDiff] <;> rfl)) rfl rfl ?_
                                                            refine o_rd (r_assign (by simp only [ev, envOf, val_set, ofValue, ofCell, ↓reduceIte, Nat.reduceEqDiff] <;> rfl)) rfl rfl ?_
                                                            refine o_rd (r_assign (by simp only [ev, envOf, val_set, ofValue, ofCell, ↓reduceIte, Nat.reduceEqDiff] <;> rfl)) rfl rfl ?_
                                                            refine o_rd (r_assign (by simp only [ev, envOf, val_set, ofValue, ofCell, ↓reduceIte, Nat.reduceEqDiff] <;> rfl)) rfl rfl ?_
                                                            refine o_nil ?_
                                                            refine w_ret ⟨.inr rfl, rfl, .tup [.int .i64 (6), .int .i64 (0), .int .i64 (((v.ks.length : Nat) : Int))], (show resultA Tryd.prog [.tmp 4, .tmp 5, .tmp 6] _ = _ by simp only [resultA, resultsA, envOf, val_set, ↓reduceIte, Nat.reduceEqDiff, Option.map_some] <;> rfl), ?_⟩
                                                            try dsimp only
                                                            have hp : wantsF v.k v.n k v.ks.length = ((6), (0), (((v.ks.length : Nat) : Int))) := by simp [wantsF, hc2, hc3, hc4, hc5, hc6, hc7, hc8, hc9, hc10, hc11, hc12, hc14, hc15, hc16, hc17, hc18, hc19, hc20, hc21, hc22, hc23, hc24, hc25, hc26, hc27, hc29, hc30, hc31, hc32]
                                                            refine ⟨by rw [hp]; rfl, E1⟩
                                                          · have hc32 := dec_f hB32
                                                            refine w_skip ?_
                                                            refine w_seq ?_
                                                            refine w_region ?_
                                                            refine o_rd (r_move (by simp only [ev, envOf, val_set, ofValue, ofCell, ↓reduceIte, Nat.reduceEqDiff] <;> rfl)) rfl rfl ?_
                                                            refine o_rd (r_assign (by simp only [ev, envOf, val_set, ofValue, ofCell, ↓reduceIte, Nat.reduceEqDiff] <;> rfl)) rfl rfl ?_
                                                            refine o_rd (r_assign (by simp only [ev, envOf, val_set, ofValue, ofCell, ↓reduceIte, Nat.reduceEqDiff] <;> rfl)) rfl rfl ?_
                                                            refine o_rd (r_assign (by simp only [ev, envOf, val_set, ofValue, ofCell, ↓reduceIte, Nat.reduceEqDiff] <;> rfl)) rfl rfl ?_
                                                            refine o_nil ?_
                                                            refine w_ret ⟨.inr rfl, rfl, .tup [.int .i64 (2), .int .i64 (0), .int .i64 (((v.ks.length : Nat) : Int))], (show resultA Tryd.prog [.tmp 4, .tmp 5, .tmp 6] _ = _ by simp only [resultA, resultsA, envOf, val_set, ↓reduceIte, Nat.reduceEqDiff, Option.map_some] <;> rfl), ?_⟩
                                                            try dsimp only
                                                            have hp : wantsF v.k v.n k v.ks.length = ((2), (0), (((v.ks.length : Nat) : Int))) := by simp [wantsF, hc2, hc3, hc4, hc5, hc6, hc7, hc8, hc9, hc10, hc11, hc12, hc14, hc15, hc16, hc17, hc18, hc19, hc20, hc21, hc22, hc23, hc24, hc25, hc26, hc27, hc29, hc30, hc31, hc32]
                                                            refine ⟨by rw [hp]; rfl, E1⟩
                                                        · have hc31 := dec_f hB31
                                                          refine w_skip ?_
                                                          refine w_seq ?_
                                                          refine w_region ?_
                                                          refine o_rd (r_assign (by simp only [ev, envOf, val_set, ofValue, ofCell, ↓reduceIte, Nat.reduceEqDiff] <;> rfl)) rfl rfl ?_
                                                          refine o_rd (r_assign (by simp only [ev, envOf, val_set, ofValue, ofCell, ↓reduceIte, Nat.reduceEqDiff] <;> rfl)) rfl rfl ?_
                                                          refine o_nil ?_
                                                          refine w_seq ?_
                                                          refine w_seq ?_
                                                          refine w_region ?_
                                                          refine o_rd (r_fieldAddr Ty.fo24_0 (by simp only [ev, envOf, val_set, ofValue, ofCell, ↓reduceIte, Nat.reduceEqDiff] <;> rfl)) rfl rfl ?_
                                                          refine o_rd (r_load1 (v := .int .i64 (v.k)) Ty.agg3 (by simp only [ev, envOf, val_set, ofValue, ofCell, ↓reduceIte, Nat.reduceEqDiff] <;> rfl) (read_mt A1 (Nat.le_of_ble_eq_true rfl))) rfl rfl ?_
                                                          refine o_nil ?_
                                                          refine w_block ?_
                                                          refine w_seq ?_
                                                          refine w_block ?_
                                                          refine w_seq ?_
                                                          refine w_block ?_
                                                          refine w_seq ?_
                                                          refine w_block ?_
                                                          refine w_seq ?_
                                                          refine w_seq ?_
                                                          refine w_seq ?_
                                                          refine w_region ?_
                                                          refine o_rd (r_eq (a := v.k) (b := 44) (by simp only [ev, envOf, val_set, ofValue, ofCell, ↓reduceIte, Nat.reduceEqDiff] <;> rfl) (by simp only [ev, envOf, val_set, ofValue, ofCell, ↓reduceIte, Nat.reduceEqDiff] <;> rfl)) rfl rfl ?_
                                                          refine o_rd (r_assign (by simp only [ev, envOf, val_set, ofValue, ofCell, ↓reduceIte, Nat.reduceEqDiff] <;> rfl)) rfl rfl ?_
                                                          refine o_nil ?_
                                                          refine w_cond (by simp only [ev, envOf, val_set, ofValue, ofCell, ↓reduceIte, Nat.reduceEqDiff] <;> rfl) (fun hB33 => ?_) (fun hB33 => ?_)
                                                          · have hc33 := dec_t hB33
                                                            first | refine w_exit (blk_exit ?_) | refine w_exit (show (2 = 2 → _) ∧ (2 ≠ 2 → _) from ⟨fun _ => ?_, fun c => absurd rfl c⟩)
                                                            refine w_region ?_
                                                            refine o_rd (r_move (by simp only [ev, envOf, val_set, ofValue, ofCell, ↓reduceIte, Nat.reduceEqDiff] <;> rfl)) rfl rfl ?_
                                                            refine o_rd (r_addE (a := 0) (b := 1) (c := 1) (by simp only [ev, envOf, val_set, ofValue, ofCell, ↓reduceIte, Nat.reduceEqDiff] <;> rfl) (by simp only [ev, envOf, val_set, ofValue, ofCell, ↓reduceIte, Nat.reduceEqDiff] <;> rfl) (by omega) (by omega) (by omega)) rfl rfl ?_
                                                            refine o_rd (r_assign (by simp only [ev, envOf, val_set, ofValue, ofCell, ↓reduceIte, Nat.reduceEqDiff] <;> rfl)) rfl rfl ?_
                                                            refine o_nil ?_
                                                            refine w_seq ?_
                                                            refine w_region ?_
                                                            refine o_rd (r_move (by simp only [ev, envOf, val_set, ofValue, ofCell, ↓reduceIte, Nat.reduceEqDiff] <;> rfl)) rfl rfl ?_
                                                            refine o_rd (r_addE (a := 1) (b := 2) (c := 3) (by simp only [ev, envOf, val_set, ofValue, ofCell, ↓reduceIte, Nat.reduceEqDiff] <;> rfl) (by simp only [ev, envOf, val_set, ofValue, ofCell, ↓reduceIte, Nat.reduceEqDiff] <;> rfl) (by omega) (by omega) (by omega)) rfl rfl ?_
                                                            refine o_rd (r_move (by simp only [ev, envOf, val_set, ofValue, ofCell, ↓reduceIte, Nat.reduceEqDiff] <;> rfl)) rfl rfl ?_
                                                            refine o_rd (r_addE (a := 1) (b := 2) (c := 3) (by simp only [ev, envOf, val_set, ofValue, ofCell, ↓reduceIte, Nat.reduceEqDiff] <;> rfl) (by simp only [ev, envOf, val_set, ofValue, ofCell, ↓reduceIte, Nat.reduceEqDiff] <;> rfl) (by omega) (by omega) (by omega)) rfl rfl ?_
                                                            refine o_rd (r_assign (by simp only [ev, envOf, val_set, ofValue, ofCell, ↓reduceIte, Nat.reduceEqDiff] <;> rfl)) rfl rfl ?_
                                                            refine o_rd (r_assign (by simp only [ev, envOf, val_set, ofValue, ofCell, ↓reduceIte, Nat.reduceEqDiff] <;> rfl)) rfl rfl ?_
                                                            refine o_nil ?_
                                                            refine w_exit (blk_pass (by decide) (blk_exit ?_))
                                                            refine w_seq ?_
                                                            refine w_seq ?_
                                                            refine w_region ?_
                                                            refine o_rd (r_move (by simp only [ev, envOf, val_set, ofValue, ofCell, ↓reduceIte, Nat.reduceEqDiff] <;> rfl)) rfl rfl ?_
                                                            refine o_nil ?_
                                                            refine w_cond (by simp only [ev, envOf, val_set, ofValue, ofCell, ↓reduceIte, Nat.reduceEqDiff] <;> rfl) (fun hB34 => ?_) (fun hB34 => ?_)
                                                            · have hc34 := dec_t hB34
                                                              refine w_seq ?_
                                                              refine w_region ?_
                                                              refine o_rd (r_move (by simp only [ev, envOf, val_set, ofValue, ofCell, ↓reduceIte, Nat.reduceEqDiff] <;> rfl)) rfl rfl ?_
                                                              refine o_rd (r_move (by simp only [ev, envOf, val_set, ofValue, ofCell, ↓reduceIte, Nat.reduceEqDiff] <;> rfl)) rfl rfl ?_
                                                              refine o_rd (r_assign (by simp only [ev, envOf, val_set, ofValue, ofCell, ↓reduceIte, Nat.reduceEqDiff] <;> rfl)) rfl rfl ?_
                                                              refine o_rd (r_assign (by simp only [ev, envOf, val_set, ofValue, ofCell, ↓reduceIte, Nat.reduceEqDiff] <;> rfl)) rfl rfl ?_
                                                              refine o_rd (r_assign (by simp only [ev, envOf, val_set, ofValue, ofCell, ↓reduceIte, Nat.reduceEqDiff] <;> rfl)) rfl rfl ?_
                                                              refine o_nil ?_
                                                              refine w_ret ⟨.inr rfl, rfl, .tup [.int .i64 (3), .int .i64 (3), .int .i64 (3)], (show resultA Tryd.prog [.tmp 4, .tmp 5, .tmp 6] _ = _ by simp only [resultA, resultsA, envOf, val_set, ↓reduceIte, Nat.reduceEqDiff, Option.map_some] <;> rfl), ?_⟩
                                                              try dsimp only
                                                              have hp : wantsF v.k v.n k v.ks.length = ((3), (3), (3)) := by simp [wantsF, hc2, hc3, hc4, hc5, hc6, hc7, hc8, hc9, hc10, hc11, hc12, hc14, hc15, hc16, hc17, hc18, hc19, hc20, hc21, hc22, hc23, hc24, hc25, hc26, hc27, hc29, hc30, hc31, hc33, hc34]
                                                              refine ⟨by rw [hp]; rfl, E1⟩
                                                            · have hc34 := dec_f hB34
                                                              refine w_skip ?_
                                                              refine w_seq ?_
                                                              refine w_region ?_
                                                              refine o_rd (r_move (by simp only [ev, envOf, val_set, ofValue, ofCell, ↓reduceIte, Nat.reduceEqDiff] <;> rfl)) rfl rfl ?_
                                                              refine o_rd (r_move (by simp only [ev, envOf, val_set, ofValue, ofCell, ↓reduceIte, Nat.reduceEqDiff] <;> rfl)) rfl rfl ?_
                                                              refine o_rd (r_assign (by simp only [ev, envOf, val_set, ofValue, ofCell, ↓reduceIte, Nat.reduceEqDiff] <;> rfl)) rfl rfl ?_
                                                              refine o_rd (r_assign (by simp only [ev, envOf, val_set, ofValue, ofCell, ↓reduceIte, Nat.reduceEqDiff] <;> rfl)) rfl rfl ?_
                                                              refine o_rd (r_assign (by simp only [ev, envOf, val_set, ofValue, ofCell, ↓reduceIte, Nat.reduceEqDiff] <;> rfl)) rfl rfl ?_
                                                              refine o_nil ?_
                                                              refine w_ret ⟨.inr rfl, rfl, .tup [.int .i64 (1), .int .i64 (3), .int .i64 (3)], (show resultA Tryd.prog [.tmp 4, .tmp 5, .tmp 6] _ = _ by simp only [resultA, resultsA, envOf, val_set, ↓reduceIte, Nat.reduceEqDiff, Option.map_some] <;> rfl), ?_⟩
                                                              try dsimp only
                                                              have hp : wantsF v.k v.n k v.ks.length = ((1), (3), (3)) := by simp [wantsF, hc2, hc3, hc4, hc5, hc6, hc7, hc8, hc9, hc10, hc11, hc12, hc14, hc15, hc16, hc17, hc18, hc19, hc20, hc21, hc22, hc23, hc24, hc25, hc26, hc27, hc29, hc30, hc31, hc33, hc34]
                                                              refine ⟨by rw [hp]; rfl, E1⟩
                                                          · have hc33 := dec_f hB33
                                                            refine w_skip ?_
                                                            refine w_seq ?_
                                                            refine w_seq ?_
                                                            refine w_seq ?_
                                                            refine w_region ?_
                                                            refine o_rd (r_eq (a := v.k) (b := 37) (by simp only [ev, envOf, val_set, ofValue, ofCell, ↓reduceIte, Nat.reduceEqDiff] <;> rfl) (by simp only [ev, envOf, val_set, ofValue, ofCell, ↓reduceIte, Nat.reduceEqDiff] <;> rfl)) rfl rfl ?_
                                                            refine o_rd (r_assign (by simp only [ev, envOf, val_set, ofValue, ofCell, ↓reduceIte, Nat.reduceEqDiff] <;> rfl)) rfl rfl ?_
                                                            refine o_nil ?_
                                                            refine w_cond (by simp only [ev, envOf, val_set, ofValue, ofCell, ↓reduceIte, Nat.reduceEqDiff] <;> rfl) (fun hB35 => ?_) (fun hB35 => ?_)
                                                            · have hc35 := dec_t hB35
                                                              refine w_skip ?_
                                                              refine w_cond (t := true) (Eq.trans (show _ = some (AV.bool (decide (v.k = 37))) from (by simp only [ev, envOf, val_set, ofValue, ofCell, ↓reduceIte, Nat.reduceEqDiff] <;> rfl)) (by rw [hB35])) (fun _ => ?_) (fun h => by cases h)
                                                              refine w_exit (blk_pass (by decide) (blk_exit ?_))
                                                              refine w_seq ?_
                                                              refine w_region ?_
                                                              refine o_rd (r_move (by simp only [ev, envOf, val_set, ofValue, ofCell, ↓reduceIte, Nat.reduceEqDiff] <;> rfl)) rfl rfl ?_
                                                              refine o_rd (r_addE (a := 0) (b := 2) (c := 2) (by simp only [ev, envOf, val_set, ofValue, ofCell, ↓reduceIte, Nat.reduceEqDiff] <;> rfl) (by simp only [ev, envOf, val_set, ofValue, ofCell, ↓reduceIte, Nat.reduceEqDiff] <;> rfl) (by omega) (by omega) (by omega)) rfl rfl ?_
                                                              refine o_rd (r_move (by simp only [ev, envOf, val_set, ofValue, ofCell, ↓reduceIte, Nat.reduceEqDiff] <;> rfl)) rfl rfl ?_
                                                              refine o_rd (r_addE (a := 0) (b := 2) (c := 2) (by simp only [ev, envOf, val_set, ofValue, ofCell, ↓reduceIte, Nat.reduceEqDiff] <;> rfl) (by simp only [ev, envOf, val_set, ofValue, ofCell, ↓reduceIte, Nat.reduceEqDiff] <;> rfl) (by omega) (by omega) (by omega)) rfl rfl ?_
                                                              refine o_rd (r_assign (by simp only [ev, envOf, val_set, ofValue, ofCell, ↓reduceIte, Nat.reduceEqDiff] <;> rfl)) rfl rfl ?_
                                                              refine o_rd (r_assign (by simp only [ev, envOf, val_set, ofValue, ofCell, ↓reduceIte, Nat.reduceEqDiff] <;> rfl)) rfl rfl ?_
                                                              refine o_nil ?_
                                                              refine w_exit (blk_pass (by decide) (blk_exit ?_))
                                                              refine w_seq ?_
                                                              refine w_seq ?_
                                                              refine w_region ?_
                                                              refine o_rd (r_move (by simp only [ev, envOf, val_set, ofValue, ofCell, ↓reduceIte, Nat.reduceEqDiff] <;> rfl)) rfl rfl ?_
                                                              refine o_nil ?_
                                                              refine w_cond (by simp only [ev, envOf, val_set, ofValue, ofCell, ↓reduceIte, Nat.reduceEqDiff] <;> rfl) (fun hB36 => ?_) (fun hB36 => ?_)
                                                              · have hc36 := dec_t hB36
                                                                refine w_seq ?_
                                                                refine w_region ?_
                                                                refine o_rd (r_move (by simp only [ev, envOf, val_set, ofValue, ofCell, ↓reduceIte, Nat.reduceEqDiff] <;> rfl)) rfl rfl ?_
                                                                refine o_rd (r_move (by simp only [ev, envOf, val_set, ofValue, ofCell, ↓reduceIte, Nat.reduceEqDiff] <;> rfl)) rfl rfl ?_
                                                                refine o_rd (r_assign (by simp only [ev, envOf, val_set, ofValue, ofCell, ↓reduceIte, Nat.reduceEqDiff] <;> rfl)) rfl rfl ?_
                                                                refine o_rd (r_assign (by simp only [ev, envOf, val_set, ofValue, ofCell, ↓reduceIte, Nat.reduceEqDiff] <;> rfl)) rfl rfl ?_
                                                                refine o_rd (r_assign (by simp only [ev, envOf, val_set, ofValue, ofCell, ↓reduceIte, Nat.reduceEqDiff] <;> rfl)) rfl rfl ?_
                                                                refine o_nil ?_
                                                                refine w_ret ⟨.inr rfl, rfl, .tup [.int .i64 (3), .int .i64 (2), .int .i64 (2)], (show resultA Tryd.prog [.tmp 4, .tmp 5, .tmp 6] _ = _ by simp only [resultA, resultsA, envOf, val_set, ↓reduceIte, Nat.reduceEqDiff, Option.map_some] <;> rfl), ?_⟩
                                                                try dsimp only
                                                                have hp : wantsF v.k v.n k v.ks.length = ((3), (2), (2)) := by simp [wantsF, hc2, hc3, hc4, hc5, hc6, hc7, hc8, hc9, hc10, hc11, hc12, hc14, hc15, hc16, hc17, hc18, hc19, hc20, hc21, hc22, hc23, hc24, hc25, hc26, hc27, hc29, hc30, hc31, hc33, hc35, hc36]
                                                                refine ⟨by rw [hp]; rfl, E1⟩
                                                              · have hc36 := dec_f hB36
                                                                refine w_skip ?_
                                                                refine w_seq ?_
                                                                refine w_region ?_
                                                                refine o_rd (r_move (by simp only [ev, envOf, val_set, ofValue, ofCell, ↓reduceIte, Nat.reduceEqDiff] <;> rfl)) rfl rfl ?_
                                                                refine o_rd (r_move (by simp only [ev, envOf, val_set, ofValue, ofCell, ↓reduceIte, Nat.reduceEqDiff] <;> rfl)) rfl rfl ?_
                                                                refine o_rd (r_assign (by simp only [ev, envOf, val_set, ofValue, ofCell, ↓reduceIte, Nat.reduceEqDiff] <;> rfl)) rfl rfl ?_
                                                                refine o_rd (r_assign (by simp only [ev, envOf, val_set, ofValue, ofCell, ↓reduceIte, Nat.reduceEqDiff] <;> rfl)) rfl rfl ?_
                                                                refine o_rd (r_assign (by simp only [ev, envOf, val_set, ofValue, ofCell, ↓reduceIte, Nat.reduceEqDiff] <;> rfl)) rfl rfl ?_
                                                                refine o_nil ?_
                                                                refine w_ret ⟨.inr rfl, rfl, .tup [.int .i64 (1), .int .i64 (2), .int .i64 (2)], (show resultA Tryd.prog [.tmp 4, .tmp 5, .tmp 6] _ = _ by simp only [resultA, resultsA, envOf, val_set, ↓reduceIte, Nat.reduceEqDiff, Option.map_some] <;> rfl), ?_⟩
                                                                try dsimp only
                                                                have hp : wantsF v.k v.n k v.ks.length = ((1), (2), (2)) := by simp [wantsF, hc2, hc3, hc4, hc5, hc6, hc7, hc8, hc9, hc10, hc11, hc12, hc14, hc15, hc16, hc17, hc18, hc19, hc20, hc21, hc22, hc23, hc24, hc25, hc26, hc27, hc29, hc30, hc31, hc33, hc35, hc36]
                                                                refine ⟨by rw [hp]; rfl, E1⟩
                                                            · have hc35 := dec_f hB35
                                                              refine w_region ?_
                                                              refine o_rd (r_eq (a := v.k) (b := 43) (by simp only [ev, envOf, val_set, ofValue, ofCell, ↓reduceIte, Nat.reduceEqDiff] <;> rfl) (by simp only [ev, envOf, val_set, ofValue, ofCell, ↓reduceIte, Nat.reduceEqDiff] <;> rfl)) rfl rfl ?_
                                                              refine o_rd (r_assign (by simp only [ev, envOf, val_set, ofValue, ofCell, ↓reduceIte, Nat.reduceEqDiff] <;> rfl)) rfl rfl ?_
                                                              refine o_nil ?_
                                                              refine w_cond (by simp only [ev, envOf, val_set, ofValue, ofCell, ↓reduceIte, Nat.reduceEqDiff] <;> rfl) (fun hB37 => ?_) (fun hB37 => ?_)
                                                              · have hc37 := dec_t hB37
                                                                refine w_exit (blk_pass (by decide) (blk_exit ?_))
                                                                refine w_seq ?_
                                                                refine w_region ?_
                                                                refine o_rd (r_move (by simp only [ev, envOf, val_set, ofValue, ofCell, ↓reduceIte, Nat.reduceEqDiff] <;> rfl)) rfl rfl ?_
                                                                refine o_rd (r_addE (a := 0) (b := 2) (c := 2) (by simp only [ev, envOf, val_set, ofValue, ofCell, ↓reduceIte, Nat.reduceEqDiff] <;> rfl) (by simp only [ev, envOf, val_set, ofValue, ofCell, ↓reduceIte, Nat.reduceEqDiff] <;> rfl) (by omega) (by omega) (by omega)) rfl rfl ?_
                                                                refine o_rd (r_move (by simp only [ev, envOf, val_set, ofValue, ofCell, ↓reduceIte, Nat.reduceEqDiff] <;> rfl)) rfl rfl ?_
                                                                refine o_rd (r_addE (a := 0) (b := 2) (c := 2) (by simp only [ev, envOf, val_set, ofValue, ofCell, ↓reduceIte, Nat.reduceEqDiff] <;> rfl) (by simp only [ev, envOf, val_set, ofValue, ofCell, ↓reduceIte, Nat.reduceEqDiff] <;> rfl) (by omega) (by omega) (by omega)) rfl rfl ?_
                                                                refine o_rd (r_assign (by simp only [ev, envOf, val_set, ofValue, ofCell, ↓reduceIte, Nat.reduceEqDiff] <;> rfl)) rfl rfl ?_
                                                                refine o_rd (r_assign (by simp only [ev, envOf, val_set, ofValue, ofCell, ↓reduceIte, Nat.reduceEqDiff] <;> rfl)) rfl rfl ?_
                                                                refine o_nil ?_
                                                                refine w_exit (blk_pass (by decide) (blk_exit ?_))
                                                                refine w_seq ?_
                                                                refine w_seq ?_
                                                                refine w_region ?_
                                                                refine o_rd (r_move (by simp only [ev, envOf, val_set, ofValue, ofCell, ↓reduceIte, Nat.reduceEqDiff] <;> rfl)) rfl rfl ?_
                                                                refine o_nil ?_
                                                                refine w_cond (by simp only [ev, envOf, val_set, ofValue, ofCell, ↓reduceIte, Nat.reduceEqDiff] <;> rfl) (fun hB38 => ?_) (fun hB38 => ?_)
                                                                · have hc38 := dec_t hB38
                                                                  refine w_seq ?_
                                                                  refine w_region ?_
                                                                  refine o_rd (r_move (by simp only [ev, envOf, val_set, ofValue, ofCell, ↓reduceIte, Nat.reduceEqDiff] <;> rfl)) rfl rfl ?_
                                                                  refine o_rd (r_move (by simp only [ev, envOf, val_set, ofValue, ofCell, ↓reduceIte, Nat.reduceEqDiff] <;> rfl)) rfl rfl ?_
                                                                  refine o_rd (r_assign (by simp only [ev, envOf, val_set, ofValue, ofCell, ↓reduceIte, Nat.reduceEqDiff] <;> rfl)) rfl rfl ?_
                                                                  refine o_rd (r_assign (by simp only [ev, envOf, val_set, ofValue, ofCell, ↓reduceIte, Nat.reduceEqDiff] <;> rfl)) rfl rfl ?_
                                                                  refine o_rd (r_assign (by simp only [ev, envOf, val_set, ofValue, ofCell, ↓reduceIte, Nat.reduceEqDiff] <;> rfl)) rfl rfl ?_
                                                                  refine o_nil ?_
                                                                  refine w_ret ⟨.inr rfl, rfl, .tup [.int .i64 (3), .int .i64 (2), .int .i64 (2)], (show resultA Tryd.prog [.tmp 4, .tmp 5, .tmp 6] _ = _ by simp only [resultA, resultsA, envOf, val_set, ↓reduceIte, Nat.reduceEqDiff, Option.map_some] <;> rfl), ?_⟩
                                                                  try dsimp only
                                                                  have hp : wantsF v.k v.n k v.ks.length = ((3), (2), (2)) := by simp [wantsF, hc2, hc3, hc4, hc5, hc6, hc7, hc8, hc9, hc10, hc11, hc12, hc14, hc15, hc16, hc17, hc18, hc19, hc20, hc21, hc22, hc23, hc24, hc25, hc26, hc27, hc29, hc30, hc31, hc33, hc35, hc37, hc38]
                                                                  refine ⟨by rw [hp]; rfl, E1⟩
                                                                · have hc38 := dec_f hB38
                                                                  refine w_skip ?_
                                                                  refine w_seq ?_
                                                                  refine w_region ?_
                                                                  refine o_rd (r_move (by simp only [ev, envOf, val_set, ofValue, ofCell, ↓reduceIte, Nat.reduceEqDiff] <;> rfl)) rfl rfl ?_
                                                                  refine o_rd (r_move (by simp only [ev, envOf, val_set, ofValue, ofCell, ↓reduceIte, Nat.reduceEqDiff] <;> rfl)) rfl rfl ?_
                                                                  refine o_rd (r_assign (by simp only [ev, envOf, val_set, ofValue, ofCell, ↓reduceIte, Nat.reduceEqDiff] <;> rfl)) rfl rfl ?_
                                                                  refine o_rd (r_assign (by simp only [ev, envOf, val_set, ofValue, ofCell, ↓reduceIte, Nat.reduceEqDiff] <;> rfl)) rfl rfl ?_
                                                                  refine o_rd (r_assign (by simp only [ev, envOf, val_set, ofValue, ofCell, ↓reduceIte, Nat.reduceEqDiff] <;> rfl)) rfl rfl ?_
                                                                  refine o_nil ?_
                                                                  refine w_ret ⟨.inr rfl, rfl, .tup [.int .i64 (1), .int .i64 (2), .int .i64 (2)], (show resultA Tryd.prog [.tmp 4, .tmp 5, .tmp 6] _ = _ by simp only [resultA, resultsA, envOf, val_set, ↓reduceIte, Nat.reduceEqDiff, Option.map_some] <;> rfl), ?_⟩
                                                                  try dsimp only
                                                                  have hp : wantsF v.k v.n k v.ks.length = ((1), (2), (2)) := by simp [wantsF, hc2, hc3, hc4, hc5, hc6, hc7, hc8, hc9, hc10, hc11, hc12, hc14, hc15, hc16, hc17, hc18, hc19, hc20, hc21, hc22, hc23, hc24, hc25, hc26, hc27, hc29, hc30, hc31, hc33, hc35, hc37, hc38]
                                                                  refine ⟨by rw [hp]; rfl, E1⟩
                                                              · have hc37 := dec_f hB37
                                                                refine w_skip ?_
                                                                refine w_seq ?_
                                                                refine w_region ?_
                                                                refine o_rd (r_eq (a := v.k) (b := 36) (by simp only [ev, envOf, val_set, ofValue, ofCell, ↓reduceIte, Nat.reduceEqDiff] <;> rfl) (by simp only [ev, envOf, val_set, ofValue, ofCell, ↓reduceIte, Nat.reduceEqDiff] <;> rfl)) rfl rfl ?_
                                                                refine o_rd (r_assign (by simp only [ev, envOf, val_set, ofValue, ofCell, ↓reduceIte, Nat.reduceEqDiff] <;> rfl)) rfl rfl ?_
                                                                refine o_nil ?_
                                                                refine w_cond (by simp only [ev, envOf, val_set, ofValue, ofCell, ↓reduceIte, Nat.reduceEqDiff] <;> rfl) (fun hB39 => ?_) (fun hB39 => ?_)
                                                                · have hc39 := dec_t hB39
                                                                  refine w_exit (blk_pass (by decide) (blk_pass (by decide) (blk_exit ?_)))
                                                                  refine w_seq ?_
                                                                  refine w_seq ?_
                                                                  refine w_region ?_
                                                                  refine o_rd (r_assign (by simp only [ev, envOf, val_set, ofValue, ofCell, ↓reduceIte, Nat.reduceEqDiff] <;> rfl)) rfl rfl ?_
                                                                  refine o_rd (r_assign (by simp only [ev, envOf, val_set, ofValue, ofCell, ↓reduceIte, Nat.reduceEqDiff] <;> rfl)) rfl rfl ?_
                                                                  refine o_nil ?_
                                                                  refine w_seq ?_
                                                                  refine w_seq ?_
                                                                  refine w_region ?_
                                                                  refine o_rd (r_move (by simp only [ev, envOf, val_set, ofValue, ofCell, ↓reduceIte, Nat.reduceEqDiff] <;> rfl)) rfl rfl ?_
                                                                  refine o_rd (r_eq (a := k) (b := 2) (by simp only [ev, envOf, val_set, ofValue, ofCell, ↓reduceIte, Nat.reduceEqDiff] <;> rfl) (by simp only [ev, envOf, val_set, ofValue, ofCell, ↓reduceIte, Nat.reduceEqDiff] <;> rfl)) rfl rfl ?_
                                                                  refine o_nil ?_
                                                                  refine w_cond (by simp only [ev, envOf, val_set, ofValue, ofCell, ↓reduceIte, Nat.reduceEqDiff] <;> rfl) (fun hB40 => ?_) (fun hB40 => ?_)
                                                                  · have hc40 := dec_t hB40
                                                                    refine w_seq ?_
                                                                    refine w_region ?_
                                                                    refine o_rd (r_assign (by simp only [ev, envOf, val_set, ofValue, ofCell, ↓reduceIte, Nat.reduceEqDiff] <;> rfl)) rfl rfl ?_
                                                                    refine o_rd (r_assign (by simp only [ev, envOf, val_set, ofValue, ofCell, ↓reduceIte, Nat.reduceEqDiff] <;> rfl)) rfl rfl ?_
                                                                    refine o_rd (r_assign (by simp only [ev, envOf, val_set, ofValue, ofCell, ↓reduceIte, Nat.reduceEqDiff] <;> rfl)) rfl rfl ?_
                                                                    refine o_nil ?_
                                                                    refine w_ret ⟨.inr rfl, rfl, .tup [.int .i64 (3), .int .i64 (2), .int .i64 (3)], (show resultA Tryd.prog [.tmp 4, .tmp 5, .tmp 6] _ = _ by simp only [resultA, resultsA, envOf, val_set, ↓reduceIte, Nat.reduceEqDiff, Option.map_some] <;> rfl), ?_⟩
                                                                    try dsimp only
                                                                    have hp : wantsF v.k v.n k v.ks.length = ((3), (2), (3)) := by simp [wantsF, hc2, hc3, hc4, hc5, hc6, hc7, hc8, hc9, hc10, hc11, hc12, hc14, hc15, hc16, hc17, hc18, hc19, hc20, hc21, hc22, hc23, hc24, hc25, hc26, hc27, hc29, hc30, hc31, hc33, hc35, hc37, hc39, hc40]
                                                                    refine ⟨by rw [hp]; rfl, E1⟩
                                                                  · have hc40 := dec_f hB40
                                                                    refine w_skip ?_
                                                                    refine w_region ?_
                                                                    refine o_rd (r_move (by simp only [ev, envOf, val_set, ofValue, ofCell, ↓reduceIte, Nat.reduceEqDiff] <;> rfl)) rfl rfl ?_
                                                                    refine o_rd (r_eq (a := k) (b := 1) (by simp only [ev, envOf, val_set, ofValue, ofCell, ↓reduceIte, Nat.reduceEqDiff] <;> rfl) (by simp only [ev, envOf, val_set, ofValue, ofCell, ↓reduceIte, Nat.reduceEqDiff] <;> rfl)) rfl rfl ?_
                                                                    refine o_rd (r_assign (by simp only [ev, envOf, val_set, ofValue, ofCell, ↓reduceIte, Nat.reduceEqDiff] <;> rfl)) rfl rfl ?_
                                                                    refine o_nil ?_
                                                                    first | refine w_exit (blk_exit ?_) | refine w_exit (show (1 = 1 → _) ∧ (1 ≠ 1 → _) from ⟨fun _ => ?_, fun c => absurd rfl c⟩)
                                                                    refine w_seq ?_
                                                                    refine w_seq ?_
                                                                    refine w_region ?_
                                                                    refine o_rd (r_move (by simp only [ev, envOf, val_set, ofValue, ofCell, ↓reduceIte, Nat.reduceEqDiff] <;> rfl)) rfl rfl ?_
                                                                    refine o_nil ?_
                                                                    refine w_cond (by simp only [ev, envOf, val_set, ofValue, ofCell, ↓reduceIte, Nat.reduceEqDiff] <;> rfl) (fun hB41 => ?_) (fun hB41 => ?_)
                                                                    · have hc41 := dec_t hB41
                                                                      refine w_seq ?_
                                                                      refine w_region ?_
                                                                      refine o_rd (r_move (by simp only [ev, envOf, val_set, ofValue, ofCell, ↓reduceIte, Nat.reduceEqDiff] <;> rfl)) rfl rfl ?_
                                                                      refine o_rd (r_move (by simp only [ev, envOf, val_set, ofValue, ofCell, ↓reduceIte, Nat.reduceEqDiff] <;> rfl)) rfl rfl ?_
                                                                      refine o_rd (r_assign (by simp only [ev, envOf, val_set, ofValue, ofCell, ↓reduceIte, Nat.reduceEqDiff] <;> rfl)) rfl rfl ?_
                                                                      refine o_rd (r_assign (by simp only [ev, envOf, val_set, ofValue, ofCell, ↓reduceIte, Nat.reduceEqDiff] <;> rfl)) rfl rfl ?_
                                                                      refine o_rd (r_assign (by simp only [ev, envOf, val_set, ofValue, ofCell, ↓reduceIte, Nat.reduceEqDiff] <;> rfl)) rfl rfl ?_
                                                                      refine o_nil ?_
                                                                      refine w_ret ⟨.inr rfl, rfl, .tup [.int .i64 (3), .int .i64 (2), .int .i64 (3)], (show resultA Tryd.prog [.tmp 4, .tmp 5, .tmp 6] _ = _ by simp only [resultA, resultsA, envOf, val_set, ↓reduceIte, Nat.reduceEqDiff, Option.map_some] <;> rfl), ?_⟩
                                                                      try dsimp only
                                                                      have hp : wantsF v.k v.n k v.ks.length = ((3), (2), (3)) := by simp [wantsF, hc2, hc3, hc4, hc5, hc6, hc7, hc8, hc9, hc10, hc11, hc12, hc14, hc15, hc16, hc17, hc18, hc19, hc20, hc21, hc22, hc23, hc24, hc25, hc26, hc27, hc29, hc30, hc31, hc33, hc35, hc37, hc39, hc40, hc41]
                                                                      refine ⟨by rw [hp]; rfl, E1⟩
                                                                    · have hc41 := dec_f hB41
                                                                      refine w_skip ?_
                                                                      refine w_seq ?_
                                                                      refine w_region ?_
                                                                      refine o_rd (r_move (by simp only [ev, envOf, val_set, ofValue, ofCell, ↓reduceIte, Nat.reduceEqDiff] <;> rfl)) rfl rfl ?_
                                                                      refine o_rd (r_move (by simp only [ev, envOf, val_set, ofValue, ofCell, ↓reduceIte, Nat.reduceEqDiff] <;> rfl)) rfl rfl ?_
                                                                      refine o_rd (r_assign (by simp only [ev, envOf, val_set, ofValue, ofCell, ↓reduceIte, Nat.reduceEqDiff] <;> rfl)) rfl rfl ?_
                                                                      refine o_rd (r_assign (by simp only [ev, envOf, val_set, ofValue, ofCell, ↓reduceIte, Nat.reduceEqDiff] <;> rfl)) rfl rfl ?_
                                                                      refine o_rd (r_assign (by simp only [ev, envOf, val_set, ofValue, ofCell, ↓reduceIte, Nat.reduceEqDiff] <;> rfl)) rfl rfl ?_
                                                                      refine o_nil ?_
                                                                      refine w_ret ⟨.inr rfl, rfl, .tup [.int .i64 (1), .int .i64 (2), .int .i64 (3)], (show resultA Tryd.prog [.tmp 4, .tmp 5, .tmp 6] _ = _ by simp only [resultA, resultsA, envOf, val_set, ↓reduceIte, Nat.reduceEqDiff, Option.map_some] <;> rfl), ?_⟩
                                                                      try dsimp only
                                                                      have hp : wantsF v.k v.n k v.ks.length = ((1), (2), (3)) := by simp [wantsF, hc2, hc3, hc4, hc5, hc6, hc7, hc8, hc9, hc10, hc11, hc12, hc14, hc15, hc16, hc17, hc18, hc19, hc20, hc21, hc22, hc23, hc24, hc25, hc26, hc27, hc29, hc30, hc31, hc33, hc35, hc37, hc39, hc40, hc41]
                                                                      refine ⟨by rw [hp]; rfl, E1⟩
                                                                · have hc39 := dec_f hB39
                                                                  refine w_skip ?_
                                                                  refine w_exit (blk_pass (by decide) (blk_pass (by decide) (blk_pass (by decide) (blk_exit ?_))))
                                                                  refine w_seq ?_
                                                                  refine w_seq ?_
                                                                  refine w_region ?_
                                                                  refine o_rd (r_move (by simp only [ev, envOf, val_set, ofValue, ofCell, ↓reduceIte, Nat.reduceEqDiff] <;> rfl)) rfl rfl ?_
                                                                  refine o_nil ?_
                                                                  refine w_cond (by simp only [ev, envOf, val_set, ofValue, ofCell, ↓reduceIte, Nat.reduceEqDiff] <;> rfl) (fun hB42 => ?_) (fun hB42 => ?_)
                                                                  · have hc42 := dec_t hB42
                                                                    refine w_seq ?_
                                                                    refine w_region ?_
                                                                    refine o_rd (r_move (by simp only [ev, envOf, val_set, ofValue, ofCell, ↓reduceIte, Nat.reduceEqDiff] <;> rfl)) rfl rfl ?_
                                                                    refine o_rd (r_move (by simp only [ev, envOf, val_set, ofValue, ofCell, ↓reduceIte, Nat.reduceEqDiff] <;> rfl)) rfl rfl ?_
                                                                    refine o_rd (r_assign (by simp only [ev, envOf, val_set, ofValue, ofCell, ↓reduceIte, Nat.reduceEqDiff] <;> rfl)) rfl rfl ?_
                                                                    refine o_rd (r_assign (by simp only [ev, envOf, val_set, ofValue, ofCell, ↓reduceIte, Nat.reduceEqDiff] <;> rfl)) rfl rfl ?_
                                                                    refine o_rd (r_assign (by simp only [ev, envOf, val_set, ofValue, ofCell, ↓reduceIte, Nat.reduceEqDiff] <;> rfl)) rfl rfl ?_
                                                                    refine o_nil ?_
                                                                    refine w_ret ⟨.inr rfl, rfl, .tup [.int .i64 (3), .int .i64 (0), .int .i64 (0)], (show resultA Tryd.prog [.tmp 4, .tmp 5, .tmp 6] _ = _ by simp only [resultA, resultsA, envOf, val_set, ↓reduceIte, Nat.reduceEqDiff, Option.map_some] <;> rfl), ?_⟩
                                                                    try dsimp only
                                                                    have hp : wantsF v.k v.n k v.ks.length = ((3), (0), (0)) := by simp [wantsF, hc2, hc3, hc4, hc5, hc6, hc7, hc8, hc9, hc10, hc11, hc12, hc14, hc15, hc16, hc17, hc18, hc19, hc20, hc21, hc22, hc23, hc24, hc25, hc26, hc27, hc29, hc30, hc31, hc33, hc35, hc37, hc39, hc42]
                                                                    refine ⟨by rw [hp]; rfl, E1⟩
                                                                  · have hc42 := dec_f hB42
                                                                    refine w_skip ?_
                                                                    refine w_seq ?_
                                                                    refine w_region ?_
                                                                    refine o_rd (r_move (by simp only [ev, envOf, val_set, ofValue, ofCell, ↓reduceIte, Nat.reduceEqDiff] <;> rfl)) rfl rfl ?_
                                                                    refine o_rd (r_move (by simp only [ev, envOf, val_set, ofValue, ofCell, ↓reduceIte, Nat.reduceEqDiff] <;> rfl)) rfl rfl ?_
                                                                    refine o_rd (r_assign (by simp only [ev, envOf, val_set, ofValue, ofCell, ↓reduceIte, Nat.reduceEqDiff] <;> rfl)) rfl rfl ?_
                                                                    refine o_rd (r_assign (by simp only [ev, envOf, val_set, ofValue, ofCell, ↓reduceIte, Nat.reduceEqDiff] <;> rfl)) rfl rfl ?_
                                                                    refine o_rd (r_assign (by simp only [ev, envOf, val_set, ofValue, ofCell, ↓reduceIte, Nat.reduceEqDiff] <;> rfl)) rfl rfl ?_
                                                                    refine o_nil ?_
                                                                    refine w_ret ⟨.inr rfl, rfl, .tup [.int .i64 (1), .int .i64 (0), .int .i64 (0)], (show resultA Tryd.prog [.tmp 4, .tmp 5, .tmp 6] _ = _ by simp only [resultA, resultsA, envOf, val_set, ↓reduceIte, Nat.reduceEqDiff, Option.map_some] <;> rfl), ?_⟩
                                                                    try dsimp only
                                                                    have hp : wantsF v.k v.n k v.ks.length = ((1), (0), (0)) := by simp [wantsF, hc2, hc3, hc4, hc5, hc6, hc7, hc8, hc9, hc10, hc11, hc12, hc14, hc15, hc16, hc17, hc18, hc19, hc20, hc21, hc22, hc23, hc24, hc25, hc26, hc27, hc29, hc30, hc31, hc33, hc35, hc37, hc39, hc42]
                                                                    refine ⟨by rw [hp]; rfl, E1⟩
set_option maxRecDepth 100000 in
set_option maxHeartbeats 4000000 in
theorem least_fin (ho : NoOrcBut [8, 64, 65] orc) {H0 : AH} (W0 : Wf H0) (v : ND) (sk : AV) (k : Int) : Fin Tryd.prog orc 41 [.agg [.int .i64 (v.k), .int .i64 (v.at_), sk, .str (v.nm), .int .i64 (v.n)], .int .i64 (k)] H0 (fun r H' => r = .int .i64 (leastF v.k v.n k) ∧ Ext H0 H') := by
  have E0 := Ext.refl W0
  have hlv := levelF_le v.k v.n
  refine fin_of Tryd.func41 rfl (by rw [Tryd.ntmps41]; simp) (ho _ rfl _ _) ?_
  rw [Tryd.ntmps41]
  refine w_seq ?_
  refine w_region ?_
  refine o_nw W0 (a_box (by simp only [ev, envOf, val_set, ofValue, ofCell, ↓reduceIte, Nat.reduceEqDiff] <;> rfl)) rfl rfl rfl (by simp) ?_; intro H1 n1 W1 X1 A1
  have A1 : H1.at H0.n = some (.row [.int .i64 (v.k), .int .i64 (v.at_), sk, .str (v.nm), .int .i64 (v.n)] 24 false none) := A1
  have E1 := E0.trans X1
  have g1 : H0.n ≤ H0.n := E0.n
  refine o_rd (r_assign (by simp only [ev, envOf, val_set, ofValue, ofCell, ↓reduceIte, Nat.reduceEqDiff] <;> rfl)) rfl rfl ?_
  refine o_nil ?_
  refine w_seq ?_
  refine w_seq ?_
  refine w_region ?_
  refine o_rd (r_fieldAddr Ty.fo24_0 (by simp only [ev, envOf, val_set, ofValue, ofCell, ↓reduceIte, Nat.reduceEqDiff] <;> rfl)) rfl rfl ?_
  refine o_rd (r_load1 (v := .int .i64 (v.k)) Ty.agg3 (by simp only [ev, envOf, val_set, ofValue, ofCell, ↓reduceIte, Nat.reduceEqDiff] <;> rfl) (read_mt A1 (Nat.le_of_ble_eq_true rfl))) rfl rfl ?_
  refine o_nil ?_
  refine w_block ?_
  refine w_seq ?_
  refine w_region ?_
  refine o_rd (r_eq (a := v.k) (b := 22) (by simp only [ev, envOf, val_set, ofValue, ofCell, ↓reduceIte, Nat.reduceEqDiff] <;> rfl) (by simp only [ev, envOf, val_set, ofValue, ofCell, ↓reduceIte, Nat.reduceEqDiff] <;> rfl)) rfl rfl ?_
  refine o_rd (r_assign (by simp only [ev, envOf, val_set, ofValue, ofCell, ↓reduceIte, Nat.reduceEqDiff] <;> rfl)) rfl rfl ?_
  refine o_nil ?_
  refine w_cond (by simp only [ev, envOf, val_set, ofValue, ofCell, ↓reduceIte, Nat.reduceEqDiff] <;> rfl) (fun hB2 => ?_) (fun hB2 => ?_)
  · have hc2 := dec_t hB2
    refine w_seq ?_
    refine w_region ?_
    refine o_rd (r_loadN (cs := [.int .i64 (v.k), .int .i64 (v.at_), sk, .str (v.nm), .int .i64 (v.n)]) Ty.agg24 Ty.csz24 (by simp only [ev, envOf, val_set, ofValue, ofCell, ↓reduceIte, Nat.reduceEqDiff] <;> rfl) (read_mt A1 (Nat.le_of_ble_eq_true rfl))) rfl rfl ?_
    refine o_cl rfl rfl (by simp only [evs, ev, envOf, val_set, ofValue, ofCell, ↓reduceIte, Nat.reduceEqDiff] <;> rfl) rfl (level_fin ho W1 v sk) rfl rfl ?_; rintro _ H3 ⟨rfl, X3⟩
    have W3 := X3.wf; have E3 := E1.trans X3
    have A1 := X3.keep _ _ A1
    have n3 := X3.n
    refine o_rd (r_assign (by simp only [ev, envOf, val_set, ofValue, ofCell, ↓reduceIte, Nat.reduceEqDiff] <;> rfl)) rfl rfl ?_
    refine o_nil ?_
    refine w_seq ?_
    refine w_seq ?_
    refine w_region ?_
    refine o_rd (r_move (by simp only [ev, envOf, val_set, ofValue, ofCell, ↓reduceIte, Nat.reduceEqDiff] <;> rfl)) rfl rfl ?_
    refine o_rd (r_eq (a := levelF v.k v.n) (b := 3) (by simp only [ev, envOf, val_set, ofValue, ofCell, ↓reduceIte, Nat.reduceEqDiff] <;> rfl) (by simp only [ev, envOf, val_set, ofValue, ofCell, ↓reduceIte, Nat.reduceEqDiff] <;> rfl)) rfl rfl ?_
    refine o_rd (r_move (by simp only [ev, envOf, val_set, ofValue, ofCell, ↓reduceIte, Nat.reduceEqDiff] <;> rfl)) rfl rfl ?_
    cases hg4 : (decide (levelF v.k v.n = 3) : Bool)
    · have hg4 := dec_f hg4
      refine o_rd (r_move (by simp only [ev, envOf, val_set, ofValue, ofCell, ↓reduceIte, Nat.reduceEqDiff] <;> rfl)) rfl ((wanted_of (b := false) rfl rfl rfl (by simp only [val_set, ↓reduceIte, Nat.reduceEqDiff] <;> rfl)).trans rfl) ?_
      refine o_rd (r_eq (a := k) (b := 1) (by simp only [ev, envOf, val_set, ofValue, ofCell, ↓reduceIte, Nat.reduceEqDiff] <;> rfl) (by simp only [ev, envOf, val_set, ofValue, ofCell, ↓reduceIte, Nat.reduceEqDiff] <;> rfl)) rfl ((wanted_of (b := false) rfl rfl rfl (by simp only [val_set, ↓reduceIte, Nat.reduceEqDiff] <;> rfl)).trans rfl) ?_
      refine o_rd (r_pick (t := false) (by simp only [ev, envOf, val_set, ofValue, ofCell, ↓reduceIte, Nat.reduceEqDiff] <;> rfl) (fun h => by cases h) (fun _ => (by simp only [ev, envOf, val_set, ofValue, ofCell, ↓reduceIte, Nat.reduceEqDiff] <;> rfl))) rfl rfl ?_
      refine o_nil ?_
      refine w_cond (by simp only [ev, envOf, val_set, ofValue, ofCell, ↓reduceIte, Nat.reduceEqDiff] <;> rfl) (fun hB5 => ?_) (fun hB5 => ?_)
      · have hc5 := dec_t hB5
        refine w_region ?_
        refine o_rd (r_move (by simp only [ev, envOf, val_set, ofValue, ofCell, ↓reduceIte, Nat.reduceEqDiff] <;> rfl)) rfl rfl ?_
        refine o_rd (r_addE (a := levelF v.k v.n) (b := 1) (c := levelF v.k v.n + 1) (by simp only [ev, envOf, val_set, ofValue, ofCell, ↓reduceIte, Nat.reduceEqDiff] <;> rfl) (by simp only [ev, envOf, val_set, ofValue, ofCell, ↓reduceIte, Nat.reduceEqDiff] <;> rfl) (by omega) (by omega) (by omega)) rfl rfl ?_
        refine o_rd (r_assign (by simp only [ev, envOf, val_set, ofValue, ofCell, ↓reduceIte, Nat.reduceEqDiff] <;> rfl)) rfl rfl ?_
        refine o_nil ?_
        refine w_seq ?_
        refine w_region ?_
        refine o_rd (r_move (by simp only [ev, envOf, val_set, ofValue, ofCell, ↓reduceIte, Nat.reduceEqDiff] <;> rfl)) rfl rfl ?_
        refine o_rd (r_assign (by simp only [ev, envOf, val_set, ofValue, ofCell, ↓reduceIte, Nat.reduceEqDiff] <;> rfl)) rfl rfl ?_
        refine o_nil ?_
        refine w_ret ⟨.inr rfl, rfl, .int .i64 (levelF v.k v.n + 1), (show resultA Tryd.prog [.tmp 4] _ = _ by simp only [resultA, resultsA, envOf, val_set, ↓reduceIte, Nat.reduceEqDiff, Option.map_some] <;> rfl), ?_⟩
        try dsimp only
        refine ⟨congrArg (AV.int .i64) ?_, E3⟩; unfold leastF
        repeat' split
        all_goals first | rfl | omega
      · have hc5 := dec_f hB5
        refine w_skip ?_
        refine w_seq ?_
        refine w_region ?_
        refine o_rd (r_move (by simp only [ev, envOf, val_set, ofValue, ofCell, ↓reduceIte, Nat.reduceEqDiff] <;> rfl)) rfl rfl ?_
        refine o_rd (r_assign (by simp only [ev, envOf, val_set, ofValue, ofCell, ↓reduceIte, Nat.reduceEqDiff] <;> rfl)) rfl rfl ?_
        refine o_nil ?_
        refine w_ret ⟨.inr rfl, rfl, .int .i64 (levelF v.k v.n), (show resultA Tryd.prog [.tmp 4] _ = _ by simp only [resultA, resultsA, envOf, val_set, ↓reduceIte, Nat.reduceEqDiff, Option.map_some] <;> rfl), ?_⟩
        try dsimp only
        refine ⟨congrArg (AV.int .i64) ?_, E3⟩; unfold leastF
        repeat' split
        all_goals first | rfl | omega
    · have hg4 := dec_t hg4
      refine o_sk rfl ((wanted_of (b := true) rfl rfl rfl (by simp only [val_set, ↓reduceIte, Nat.reduceEqDiff] <;> rfl)).trans rfl) ?_
      refine o_sk rfl ((wanted_of (b := true) rfl rfl rfl (by simp only [val_set, ↓reduceIte, Nat.reduceEqDiff] <;> rfl)).trans rfl) ?_
      refine o_rd (r_pick (t := true) (by simp only [ev, envOf, val_set, ofValue, ofCell, ↓reduceIte, Nat.reduceEqDiff] <;> rfl) (fun _ => (by simp only [ev, envOf, val_set, ofValue, ofCell, ↓reduceIte, Nat.reduceEqDiff] <;> rfl)) (fun h => by cases h)) rfl rfl ?_
      refine o_nil ?_
      refine w_cond (t := true) (by simp only [ev, envOf, val_set, ofValue, ofCell, ↓reduceIte, Nat.reduceEqDiff] <;> rfl) (fun _ => ?_) (fun h => by cases h)
      refine w_region ?_
      refine o_rd (r_move (by simp only [ev, envOf, val_set, ofValue, ofCell, ↓reduceIte, Nat.reduceEqDiff] <;> rfl)) rfl rfl ?_
      refine o_rd (r_addE (a := levelF v.k v.n) (b := 1) (c := levelF v.k v.n + 1) (by simp only [ev, envOf, val_set, ofValue, ofCell, ↓reduceIte, Nat.reduceEqDiff] <;> rfl) (by simp only [ev, envOf, val_set, ofValue, ofCell, ↓reduceIte, Nat.reduceEqDiff] <;> rfl) (by omega) (by omega) (by omega)) rfl rfl ?_
      refine o_rd (r_assign (by simp only [ev, envOf, val_set, ofValue, ofCell, ↓reduceIte, Nat.reduceEqDiff] <;> rfl)) rfl rfl ?_
      refine o_nil ?_
      refine w_seq ?_
      refine w_region ?_
      refine o_rd (r_move (by simp only [ev, envOf, val_set, ofValue, ofCell, ↓reduceIte, Nat.reduceEqDiff] <;> rfl)) rfl rfl ?_
      refine o_rd (r_assign (by simp only [ev, envOf, val_set, ofValue, ofCell, ↓reduceIte, Nat.reduceEqDiff] <;> rfl)) rfl rfl ?_
      refine o_nil ?_
      refine w_ret ⟨.inr rfl, rfl, .int .i64 (levelF v.k v.n + 1), (show resultA Tryd.prog [.tmp 4] _ = _ by simp only [resultA, resultsA, envOf, val_set, ↓reduceIte, Nat.reduceEqDiff, Option.map_some] <;> rfl), ?_⟩
      try dsimp only
      refine ⟨congrArg (AV.int .i64) ?_, E3⟩; unfold leastF
      repeat' split
      all_goals first | rfl | omega
  · have hc2 := dec_f hB2
    refine w_seq ?_
    refine w_region ?_
    refine o_rd (r_eq (a := v.k) (b := 21) (by simp only [ev, envOf, val_set, ofValue, ofCell, ↓reduceIte, Nat.reduceEqDiff] <;> rfl) (by simp only [ev, envOf, val_set, ofValue, ofCell, ↓reduceIte, Nat.reduceEqDiff] <;> rfl)) rfl rfl ?_
    refine o_rd (r_assign (by simp only [ev, envOf, val_set, ofValue, ofCell, ↓reduceIte, Nat.reduceEqDiff] <;> rfl)) rfl rfl ?_
    refine o_nil ?_
    refine w_cond (by simp only [ev, envOf, val_set, ofValue, ofCell, ↓reduceIte, Nat.reduceEqDiff] <;> rfl) (fun hB6 => ?_) (fun hB6 => ?_)
    · have hc6 := dec_t hB6
      refine w_seq ?_
      refine w_region ?_
      refine o_rd (r_assign (by simp only [ev, envOf, val_set, ofValue, ofCell, ↓reduceIte, Nat.reduceEqDiff] <;> rfl)) rfl rfl ?_
      refine o_nil ?_
      refine w_ret ⟨.inr rfl, rfl, .int .i64 (6), (show resultA Tryd.prog [.tmp 4] _ = _ by simp only [resultA, resultsA, envOf, val_set, ↓reduceIte, Nat.reduceEqDiff, Option.map_some] <;> rfl), ?_⟩
      try dsimp only
      refine ⟨congrArg (AV.int .i64) ?_, E1⟩; unfold leastF
      repeat' split
      all_goals first | rfl | omega
    · have hc6 := dec_f hB6
      refine w_seq ?_
      refine w_region ?_
      refine o_rd (r_eq (a := v.k) (b := 43) (by simp only [ev, envOf, val_set, ofValue, ofCell, ↓reduceIte, Nat.reduceEqDiff] <;> rfl) (by simp only [ev, envOf, val_set, ofValue, ofCell, ↓reduceIte, Nat.reduceEqDiff] <;> rfl)) rfl rfl ?_
      refine o_rd (r_assign (by simp only [ev, envOf, val_set, ofValue, ofCell, ↓reduceIte, Nat.reduceEqDiff] <;> rfl)) rfl rfl ?_
      refine o_nil ?_
      refine w_cond (by simp only [ev, envOf, val_set, ofValue, ofCell, ↓reduceIte, Nat.reduceEqDiff] <;> rfl) (fun hB7 => ?_) (fun hB7 => ?_)
      · have hc7 := dec_t hB7
        refine w_seq ?_
        refine w_region ?_
        refine o_rd (r_move (by simp only [ev, envOf, val_set, ofValue, ofCell, ↓reduceIte, Nat.reduceEqDiff] <;> rfl)) rfl rfl ?_
        refine o_rd (r_eq (a := k) (b := 0) (by simp only [ev, envOf, val_set, ofValue, ofCell, ↓reduceIte, Nat.reduceEqDiff] <;> rfl) (by simp only [ev, envOf, val_set, ofValue, ofCell, ↓reduceIte, Nat.reduceEqDiff] <;> rfl)) rfl rfl ?_
        refine o_nil ?_
        refine w_cond (by simp only [ev, envOf, val_set, ofValue, ofCell, ↓reduceIte, Nat.reduceEqDiff] <;> rfl) (fun hB8 => ?_) (fun hB8 => ?_)
        · have hc8 := dec_t hB8
          refine w_seq ?_
          refine w_region ?_
          refine o_rd (r_assign (by simp only [ev, envOf, val_set, ofValue, ofCell, ↓reduceIte, Nat.reduceEqDiff] <;> rfl)) rfl rfl ?_
          refine o_nil ?_
          refine w_ret ⟨.inr rfl, rfl, .int .i64 (6), (show resultA Tryd.prog [.tmp 4] _ = _ by simp only [resultA, resultsA, envOf, val_set, ↓reduceIte, Nat.reduceEqDiff, Option.map_some] <;> rfl), ?_⟩
          try dsimp only
          refine ⟨congrArg (AV.int .i64) ?_, E1⟩; unfold leastF
          repeat' split
          all_goals first | rfl | omega
        · have hc8 := dec_f hB8
          refine w_skip ?_
          refine w_seq ?_
          refine w_region ?_
          refine o_rd (r_assign (by simp only [ev, envOf, val_set, ofValue, ofCell, ↓reduceIte, Nat.reduceEqDiff] <;> rfl)) rfl rfl ?_
          refine o_nil ?_
          refine w_ret ⟨.inr rfl, rfl, .int .i64 (1), (show resultA Tryd.prog [.tmp 4] _ = _ by simp only [resultA, resultsA, envOf, val_set, ↓reduceIte, Nat.reduceEqDiff, Option.map_some] <;> rfl), ?_⟩
          try dsimp only
          refine ⟨congrArg (AV.int .i64) ?_, E1⟩; unfold leastF
          repeat' split
          all_goals first | rfl | omega
      · have hc7 := dec_f hB7
        refine w_seq ?_
        refine w_region ?_
        refine o_rd (r_eq (a := v.k) (b := 25) (by simp only [ev, envOf, val_set, ofValue, ofCell, ↓reduceIte, Nat.reduceEqDiff] <;> rfl) (by simp only [ev, envOf, val_set, ofValue, ofCell, ↓reduceIte, Nat.reduceEqDiff] <;> rfl)) rfl rfl ?_
        refine o_rd (r_assign (by simp only [ev, envOf, val_set, ofValue, ofCell, ↓reduceIte, Nat.reduceEqDiff] <;> rfl)) rfl rfl ?_
        refine o_nil ?_
        refine w_cond (by simp only [ev, envOf, val_set, ofValue, ofCell, ↓reduceIte, Nat.reduceEqDiff] <;> rfl) (fun hB9 => ?_) (fun hB9 => ?_)
        · have hc9 := dec_t hB9
          refine w_seq ?_
          refine w_region ?_
          refine o_rd (r_assign (by simp only [ev, envOf, val_set, ofValue, ofCell, ↓reduceIte, Nat.reduceEqDiff] <;> rfl)) rfl rfl ?_
          refine o_nil ?_
          refine w_ret ⟨.inr rfl, rfl, .int .i64 (7), (show resultA Tryd.prog [.tmp 4] _ = _ by simp only [resultA, resultsA, envOf, val_set, ↓reduceIte, Nat.reduceEqDiff, Option.map_some] <;> rfl), ?_⟩
          try dsimp only
          refine ⟨congrArg (AV.int .i64) ?_, E1⟩; unfold leastF
          repeat' split
          all_goals first | rfl | omega
        · have hc9 := dec_f hB9
          refine w_seq ?_
          refine w_seq ?_
          refine w_region ?_
          refine o_rd (r_eq (a := v.k) (b := 23) (by simp only [ev, envOf, val_set, ofValue, ofCell, ↓reduceIte, Nat.reduceEqDiff] <;> rfl) (by simp only [ev, envOf, val_set, ofValue, ofCell, ↓reduceIte, Nat.reduceEqDiff] <;> rfl)) rfl rfl ?_
          refine o_rd (r_assign (by simp only [ev, envOf, val_set, ofValue, ofCell, ↓reduceIte, Nat.reduceEqDiff] <;> rfl)) rfl rfl ?_
          refine o_nil ?_
          refine w_cond (by simp only [ev, envOf, val_set, ofValue, ofCell, ↓reduceIte, Nat.reduceEqDiff] <;> rfl) (fun hB10 => ?_) (fun hB10 => ?_)
          · have hc10 := dec_t hB10
            refine w_skip ?_
            refine w_cond (t := true) (Eq.trans (show _ = some (AV.bool (decide (v.k = 23))) from (by simp only [ev, envOf, val_set, ofValue, ofCell, ↓reduceIte, Nat.reduceEqDiff] <;> rfl)) (by rw [hB10])) (fun _ => ?_) (fun h => by cases h)
            refine w_seq ?_
            refine w_region ?_
            refine o_rd (r_move (by simp only [ev, envOf, val_set, ofValue, ofCell, ↓reduceIte, Nat.reduceEqDiff] <;> rfl)) rfl rfl ?_
            refine o_rd (r_eq (a := k) (b := 0) (by simp only [ev, envOf, val_set, ofValue, ofCell, ↓reduceIte, Nat.reduceEqDiff] <;> rfl) (by simp only [ev, envOf, val_set, ofValue, ofCell, ↓reduceIte, Nat.reduceEqDiff] <;> rfl)) rfl rfl ?_
            refine o_nil ?_
            refine w_cond (by simp only [ev, envOf, val_set, ofValue, ofCell, ↓reduceIte, Nat.reduceEqDiff] <;> rfl) (fun hB11 => ?_) (fun hB11 => ?_)
            · have hc11 := dec_t hB11
              refine w_seq ?_
              refine w_region ?_
              refine o_rd (r_assign (by simp only [ev, envOf, val_set, ofValue, ofCell, ↓reduceIte, Nat.reduceEqDiff] <;> rfl)) rfl rfl ?_
              refine o_nil ?_
              refine w_ret ⟨.inr rfl, rfl, .int .i64 (7), (show resultA Tryd.prog [.tmp 4] _ = _ by simp only [resultA, resultsA, envOf, val_set, ↓reduceIte, Nat.reduceEqDiff, Option.map_some] <;> rfl), ?_⟩
              try dsimp only
              refine ⟨congrArg (AV.int .i64) ?_, E1⟩; unfold leastF
              repeat' split
              all_goals first | rfl | omega
            · have hc11 := dec_f hB11
              refine w_skip ?_
              refine w_seq ?_
              refine w_region ?_
              refine o_rd (r_assign (by simp only [ev, envOf, val_set, ofValue, ofCell, ↓reduceIte, Nat.reduceEqDiff] <;> rfl)) rfl rfl ?_
              refine o_nil ?_
              refine w_ret ⟨.inr rfl, rfl, .int .i64 (1), (show resultA Tryd.prog [.tmp 4] _ = _ by simp only [resultA, resultsA, envOf, val_set, ↓reduceIte, Nat.reduceEqDiff, Option.map_some] <;> rfl), ?_⟩
              try dsimp only
              refine ⟨congrArg (AV.int .i64) ?_, E1⟩; unfold leastF
              repeat' split
              all_goals first | rfl | omega
          · have hc10 := dec_f hB10
            refine w_region ?_
            refine o_rd (r_eq (a := v.k) (b := 24) (by simp only [ev, envOf, val_set, ofValue, ofCell, ↓reduceIte, Nat.reduceEqDiff] <;> rfl) (by simp only [ev, envOf, val_set, ofValue, ofCell, ↓reduceIte, Nat.reduceEqDiff] <;> rfl)) rfl rfl ?_
            refine o_rd (r_assign (by simp only [ev, envOf, val_set, ofValue, ofCell, ↓reduceIte, Nat.reduceEqDiff] <;> rfl)) rfl rfl ?_
            refine o_nil ?_
            refine w_cond (by simp only [ev, envOf, val_set, ofValue, ofCell, ↓reduceIte, Nat.reduceEqDiff] <;> rfl) (fun hB12 => ?_) (fun hB12 => ?_)
            · have hc12 := dec_t hB12
              refine w_seq ?_
              refine w_region ?_
              refine o_rd (r_move (by simp only [ev, envOf, val_set, ofValue, ofCell, ↓reduceIte, Nat.reduceEqDiff] <;> rfl)) rfl rfl ?_
              refine o_rd (r_eq (a := k) (b := 0) (by simp only [ev, envOf, val_set, ofValue, ofCell, ↓reduceIte, Nat.reduceEqDiff] <;> rfl) (by simp only [ev, envOf, val_set, ofValue, ofCell, ↓reduceIte, Nat.reduceEqDiff] <;> rfl)) rfl rfl ?_
              refine o_nil ?_
              refine w_cond (by simp only [ev, envOf, val_set, ofValue, ofCell, ↓reduceIte, Nat.reduceEqDiff] <;> rfl) (fun hB13 => ?_) (fun hB13 => ?_)
              · have hc13 := dec_t hB13
                refine w_seq ?_
                refine w_region ?_
                refine o_rd (r_assign (by simp only [ev, envOf, val_set, ofValue, ofCell, ↓reduceIte, Nat.reduceEqDiff] <;> rfl)) rfl rfl ?_
                refine o_nil ?_
                refine w_ret ⟨.inr rfl, rfl, .int .i64 (7), (show resultA Tryd.prog [.tmp 4] _ = _ by simp only [resultA, resultsA, envOf, val_set, ↓reduceIte, Nat.reduceEqDiff, Option.map_some] <;> rfl), ?_⟩
                try dsimp only
                refine ⟨congrArg (AV.int .i64) ?_, E1⟩; unfold leastF
                repeat' split
                all_goals first | rfl | omega
              · have hc13 := dec_f hB13
                refine w_skip ?_
                refine w_seq ?_
                refine w_region ?_
                refine o_rd (r_assign (by simp only [ev, envOf, val_set, ofValue, ofCell, ↓reduceIte, Nat.reduceEqDiff] <;> rfl)) rfl rfl ?_
                refine o_nil ?_
                refine w_ret ⟨.inr rfl, rfl, .int .i64 (1), (show resultA Tryd.prog [.tmp 4] _ = _ by simp only [resultA, resultsA, envOf, val_set, ↓reduceIte, Nat.reduceEqDiff, Option.map_some] <;> rfl), ?_⟩
                try dsimp only
                refine ⟨congrArg (AV.int .i64) ?_, E1⟩; unfold leastF
                repeat' split
                all_goals first | rfl | omega
            · have hc12 := dec_f hB12
              refine w_skip ?_
              refine w_seq ?_
              refine w_region ?_
              refine o_rd (r_assign (by simp only [ev, envOf, val_set, ofValue, ofCell, ↓reduceIte, Nat.reduceEqDiff] <;> rfl)) rfl rfl ?_
              refine o_nil ?_
              refine w_ret ⟨.inr rfl, rfl, .int .i64 (1), (show resultA Tryd.prog [.tmp 4] _ = _ by simp only [resultA, resultsA, envOf, val_set, ↓reduceIte, Nat.reduceEqDiff, Option.map_some] <;> rfl), ?_⟩
              try dsimp only
              refine ⟨congrArg (AV.int .i64) ?_, E1⟩; unfold leastF
              repeat' split
              all_goals first | rfl | omega
end Go.Proofs.YtpdphdbphhaekaaDoor.Vs
