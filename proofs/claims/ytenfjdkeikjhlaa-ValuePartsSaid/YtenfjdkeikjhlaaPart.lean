/-
  value.step and value.Part: the part at a path.
-/
import Derived.Test.YtenfjdkeikjhlaaOwnV
set_option autoImplicit false
set_option linter.unusedVariables false
set_option linter.unusedSimpArgs false
namespace Go.Proofs.Ytenfjdkeikjhlaa.Vs
open Go.VI Go.Proofs
variable {orc : CallF}
def stepV : V → Int → Option V
  | .mk k _ l, i => if (k = 3 ∨ k = 4) ∧ 0 ≤ i ∧ i < (l.length : Int) then l[i.toNat]? else none
def partV : V → List Int → Option V
  | v, [] => some v
  | v, i :: p => match stepV v i with
    | some x => partV x p
    | none => none
theorem stepV_mem {k n i : Int} {l : List V} {x : V} (h : stepV (.mk k n l) i = some x) : x ∈ l := by
  simp only [stepV] at h
  by_cases hc : (k = 3 ∨ k = 4) ∧ 0 ≤ i ∧ i < (l.length : Int)
  · rw [if_pos hc] at h; exact List.mem_of_getElem? h
  · rw [if_neg hc] at h; cases h
theorem stepV_cnt {v x : V} {i : Int} (h : stepV v i = some x) : x.cnt < v.cnt := by
  cases v with | mk k n l => have := V.cnt_mem (stepV_mem h); simp only [V.cnt]; omega
theorem partV_cnt : ∀ {p : List Int} {v x : V}, partV v p = some x → x.cnt ≤ v.cnt
  | [], v, x, h => by injection h with h; subst h; exact Nat.le_refl _
  | i :: p, v, x, h => by
    unfold partV at h
    cases hs : stepV v i with
    | none => rw [hs] at h; cases h
    | some y => rw [hs] at h; have := partV_cnt h; have := stepV_cnt hs; omega
theorem own_fin2 (ho : NoOrcBut [9, 35, 36] orc) (x : V) (hc : x.cnt ≤ 1000000) {H : AH} (W : Wf H) {a : List AV} (ha : VA H x a) : VI.Fin Try.prog orc 44 [.agg a] H (fun r H' => ∃ k n s, r = .agg [.int .i64 k, .int .i64 n, s] ∧ OA H' H.n H'.n x [.int .i64 k, .int .i64 n, s] ∧ Ext H H') :=
  (own_fin ho x hc H W a ha).mono fun r H' ⟨a', h1, h2, h3⟩ => by
    cases h2 with | mk _ _ k n l s h => exact ⟨k, n, s, h1, .mk _ _ _ _ _ _ h, h3⟩
def zV : AV := .agg [.int .i64 0, .int .i64 0, .nils]
set_option maxRecDepth 100000 in
set_option maxHeartbeats 4000000 in
theorem step_fin (ho : NoOrcBut [9, 35, 36] orc) {H0 : AH} (W0 : Wf H0) {HB : AH} (EB : Ext HB H0) (ka na ix : Int) (la : List V) (sa : AV) (hS : SA HB la sa) : Fin Try.prog orc 43 [.agg [.int .i64 (ka), .int .i64 (na), sa], .int .i64 (ix)] H0 (fun r H' => ((stepV (.mk ka na la) ix = none ∧ r = .tup [.agg [.int .i64 0, .int .i64 0, .nils], .bool false]) ∨ ∃ xk xn xl xs, stepV (.mk ka na la) ix = some (.mk xk xn xl) ∧ SA HB xl xs ∧ r = .tup [.agg [.int .i64 xk, .int .i64 xn, xs], .bool true]) ∧ Ext H0 H') := by
  have E0 := Ext.refl W0
  refine fin_of Try.func43 rfl (by rw [Try.ntmps43]; simp) (ho _ rfl _ _) ?_
  rw [Try.ntmps43]
  refine w_seq ?_
  refine w_region ?_
  refine o_nw W0 (a_box (by simp only [ev, envOf, val_set, ofValue, ofCell, ↓reduceIte, Nat.reduceEqDiff] <;> rfl)) rfl rfl rfl (by simp) ?_; intro H1 n1 W1 X1 A1
  have A1 : H1.at H0.n = some (.row [.int .i64 (ka), .int .i64 (na), sa] 24 false none) := A1
  have E1 := E0.trans X1
  refine o_nw W1 (a_alloc Ty.zero24) rfl rfl rfl (by simp) ?_; intro H2 n2 W2 X2 A2
  have A2 : H2.at H1.n = some (.row [.int .i64 (0), .int .i64 (0), .nils] 24 false none) := A2
  have E2 := E1.trans X2
  have A1 := X2.keep _ _ A1
  refine o_rd (r_assign (by simp only [ev, envOf, val_set, ofValue, ofCell, ↓reduceIte, Nat.reduceEqDiff] <;> rfl)) rfl rfl ?_
  refine o_nil ?_
  refine w_seq ?_
  refine w_seq ?_
  refine w_region ?_
  refine o_rd (r_fieldAddr Ty.fo24_0 (by simp only [ev, envOf, val_set, ofValue, ofCell, ↓reduceIte, Nat.reduceEqDiff] <;> rfl)) rfl rfl ?_
  refine o_rd (r_load1 (v := .int .i64 (ka)) Ty.agg3 (by simp only [ev, envOf, val_set, ofValue, ofCell, ↓reduceIte, Nat.reduceEqDiff] <;> rfl) (read_mt A1 (Nat.le_of_ble_eq_true rfl))) rfl rfl ?_
  refine o_rd (r_ne (a := ka) (b := 3) (by simp only [ev, envOf, val_set, ofValue, ofCell, ↓reduceIte, Nat.reduceEqDiff] <;> rfl) (by simp only [ev, envOf, val_set, ofValue, ofCell, ↓reduceIte, Nat.reduceEqDiff] <;> rfl)) rfl rfl ?_
  refine o_rd (r_move (by simp only [ev, envOf, val_set, ofValue, ofCell, ↓reduceIte, Nat.reduceEqDiff] <;> rfl)) rfl rfl ?_
  cases hg3 : (decide (ka ≠ 3) : Bool)
  · have hg3 := dec_fn hg3
    refine o_sk rfl ((wanted_of (b := false) rfl rfl rfl (by simp only [val_set, ↓reduceIte, Nat.reduceEqDiff] <;> rfl)).trans rfl) ?_
    refine o_sk rfl ((wanted_of (b := false) rfl rfl rfl (by simp only [val_set, ↓reduceIte, Nat.reduceEqDiff] <;> rfl)).trans rfl) ?_
    refine o_sk rfl ((wanted_of (b := false) rfl rfl rfl (by simp only [val_set, ↓reduceIte, Nat.reduceEqDiff] <;> rfl)).trans rfl) ?_
    refine o_rd (r_pick (t := false) (by simp only [ev, envOf, val_set, ofValue, ofCell, ↓reduceIte, Nat.reduceEqDiff] <;> rfl) (fun h => by cases h) (fun _ => (by simp only [ev, envOf, val_set, ofValue, ofCell, ↓reduceIte, Nat.reduceEqDiff] <;> rfl))) rfl rfl ?_
    refine o_rd (r_move (by simp only [ev, envOf, val_set, ofValue, ofCell, ↓reduceIte, Nat.reduceEqDiff] <;> rfl)) rfl rfl ?_
    refine o_rd (r_move (by simp only [ev, envOf, val_set, ofValue, ofCell, ↓reduceIte, Nat.reduceEqDiff] <;> rfl)) rfl ((wanted_of (b := false) rfl rfl rfl (by simp only [val_set, ↓reduceIte, Nat.reduceEqDiff] <;> rfl)).trans rfl) ?_
    refine o_rd (r_lt (a := ix) (b := 0) (by simp only [ev, envOf, val_set, ofValue, ofCell, ↓reduceIte, Nat.reduceEqDiff] <;> rfl) (by simp only [ev, envOf, val_set, ofValue, ofCell, ↓reduceIte, Nat.reduceEqDiff] <;> rfl)) rfl ((wanted_of (b := false) rfl rfl rfl (by simp only [val_set, ↓reduceIte, Nat.reduceEqDiff] <;> rfl)).trans rfl) ?_
    refine o_rd (r_pick (t := false) (by simp only [ev, envOf, val_set, ofValue, ofCell, ↓reduceIte, Nat.reduceEqDiff] <;> rfl) (fun h => by cases h) (fun _ => (by simp only [ev, envOf, val_set, ofValue, ofCell, ↓reduceIte, Nat.reduceEqDiff] <;> rfl))) rfl rfl ?_
    refine o_rd (r_move (by simp only [ev, envOf, val_set, ofValue, ofCell, ↓reduceIte, Nat.reduceEqDiff] <;> rfl)) rfl rfl ?_
    cases hg4 : (decide (ix < 0) : Bool)
    · have hg4 := dec_f hg4
      refine o_rd (r_move (by simp only [ev, envOf, val_set, ofValue, ofCell, ↓reduceIte, Nat.reduceEqDiff] <;> rfl)) rfl ((wanted_of (b := false) rfl rfl rfl (by simp only [val_set, ↓reduceIte, Nat.reduceEqDiff] <;> rfl)).trans rfl) ?_
      refine o_rd (r_fieldAddr Ty.fo24_2 (by simp only [ev, envOf, val_set, ofValue, ofCell, ↓reduceIte, Nat.reduceEqDiff] <;> rfl)) rfl ((wanted_of (b := false) rfl rfl rfl (by simp only [val_set, ↓reduceIte, Nat.reduceEqDiff] <;> rfl)).trans rfl) ?_
      refine o_rd (r_load1 (v := sa) Ty.agg22 (by simp only [ev, envOf, val_set, ofValue, ofCell, ↓reduceIte, Nat.reduceEqDiff] <;> rfl) (read_mt A1 (Nat.le_of_ble_eq_true rfl))) rfl ((wanted_of (b := false) rfl rfl rfl (by simp only [val_set, ↓reduceIte, Nat.reduceEqDiff] <;> rfl)).trans rfl) ?_
      refine o_rd (r_len (n := la.length) Try.underlying22 (by simp only [ev, envOf, val_set, ofValue, ofCell, ↓reduceIte, Nat.reduceEqDiff] <;> rfl) hS.lenOf) rfl ((wanted_of (b := false) rfl rfl rfl (by simp only [val_set, ↓reduceIte, Nat.reduceEqDiff] <;> rfl)).trans rfl) ?_
      refine o_rd (r_ge (a := ix) (b := ((la.length : Nat) : Int)) (by simp only [ev, envOf, val_set, ofValue, ofCell, ↓reduceIte, Nat.reduceEqDiff] <;> rfl) (by simp only [ev, envOf, val_set, ofValue, ofCell, ↓reduceIte, Nat.reduceEqDiff] <;> rfl)) rfl ((wanted_of (b := false) rfl rfl rfl (by simp only [val_set, ↓reduceIte, Nat.reduceEqDiff] <;> rfl)).trans rfl) ?_
      refine o_rd (r_pick (t := false) (by simp only [ev, envOf, val_set, ofValue, ofCell, ↓reduceIte, Nat.reduceEqDiff] <;> rfl) (fun h => by cases h) (fun _ => (by simp only [ev, envOf, val_set, ofValue, ofCell, ↓reduceIte, Nat.reduceEqDiff] <;> rfl))) rfl rfl ?_
      refine o_nil ?_
      refine w_cond (by simp only [ev, envOf, val_set, ofValue, ofCell, ↓reduceIte, Nat.reduceEqDiff] <;> rfl) (fun hc5 => ?_) (fun hc5 => ?_)
      · have hc5 := dec_t hc5
        refine w_seq ?_
        refine w_region ?_
        refine o_rd (r_build (cs := [.int .i64 (0), .int .i64 (0), .nils]) Ty.zero24 Ty.pl24 (by simp only [evParts, ev, envOf, val_set, ofValue, ofCell, ↓reduceIte, Nat.reduceEqDiff] <;> rfl) rfl) rfl rfl ?_
        refine o_st W2 (by simp only [ev, envOf, val_set, ofValue, ofCell, ↓reduceIte, Nat.reduceEqDiff] <;> rfl) (by simp only [ev, envOf, val_set, ofValue, ofCell, ↓reduceIte, Nat.reduceEqDiff] <;> rfl) A2 Ty.csz24 rfl (Nat.le_of_ble_eq_true rfl) (by first | rfl | exact ones3 (SA.one' hxs)) rfl rfl ?_; intro H6 n6 W6 A6 K6
        have A6 : H6.at H1.n = some (.row [.int .i64 (0), .int .i64 (0), .nils] 24 false none) := A6
        have E6 := Ext.put W0 E2 (by have := E2.n; omega) K6 n6 W6
        have A1 := K6.own A1 (by omega)
        refine o_rd (r_assign (by simp only [ev, envOf, val_set, ofValue, ofCell, ↓reduceIte, Nat.reduceEqDiff] <;> rfl)) rfl rfl ?_
        refine o_nil ?_
        have hr7 : H6.read (.mt H1.n) 0 3 = some [.int .i64 (0), .int .i64 (0), .nils] := read_mt A6 (Nat.le_of_ble_eq_true rfl)
        refine w_ret ⟨.inr rfl, rfl, .tup [.agg [.int .i64 (0), .int .i64 (0), .nils], .bool (false)], (show resultA Try.prog [.cell 4 24, .tmp 5] _ = _ by simp only [resultA, resultsA, envOf, val_set, ↓reduceIte, Nat.reduceEqDiff, Option.map_some, hr7, Ty.agg24, Ty.csz24] <;> rfl), ?_⟩
        try dsimp only
        first | exact ⟨.inl ⟨by simp only [stepV]; rw [if_neg (by omega)], rfl⟩, E6⟩ | exact ⟨.inr ⟨xk, xn, xl, xs, by simp only [stepV]; rw [if_pos (by omega), Int.toNat_natCast, List.getElem?_eq_getElem hj, hxe], hxs, rfl⟩, E6⟩
      · have hc5 := dec_f hc5
        refine w_skip ?_
        refine w_seq ?_
        refine w_region ?_
        refine o_rd (r_fieldAddr Ty.fo24_2 (by simp only [ev, envOf, val_set, ofValue, ofCell, ↓reduceIte, Nat.reduceEqDiff] <;> rfl)) rfl rfl ?_
        refine o_rd (r_load1 (v := sa) Ty.agg22 (by simp only [ev, envOf, val_set, ofValue, ofCell, ↓reduceIte, Nat.reduceEqDiff] <;> rfl) (read_mt A1 (Nat.le_of_ble_eq_true rfl))) rfl rfl ?_
        refine o_rd (r_move (by simp only [ev, envOf, val_set, ofValue, ofCell, ↓reduceIte, Nat.reduceEqDiff] <;> rfl)) rfl rfl ?_
        obtain ⟨j, rfl⟩ := Int.eq_ofNat_of_zero_le (show 0 ≤ ix by omega)
        have hj : j < la.length := by omega
        obtain ⟨loc1, off1, cap1, ce1, rfl, hr1, hv1⟩ := hS.get hj
        obtain ⟨xk, xn, xl, xs, rfl, hxe, hxs⟩ := hv1.inv
        refine o_rd (r_indexAddr Try.underlying22 Ty.csz24 (by simp only [ev, envOf, val_set, ofValue, ofCell, ↓reduceIte, Nat.reduceEqDiff] <;> rfl) (by simp only [ev, envOf, val_set, ofValue, ofCell, ↓reduceIte, Nat.reduceEqDiff] <;> rfl) hj) rfl rfl ?_
        refine o_rd (r_loadN Ty.agg24 Ty.csz24 (by simp only [ev, envOf, val_set, ofValue, ofCell, ↓reduceIte, Nat.reduceEqDiff] <;> rfl) ((EB.trans E2).read hr1)) rfl rfl ?_
        refine o_st W2 (by simp only [ev, envOf, val_set, ofValue, ofCell, ↓reduceIte, Nat.reduceEqDiff] <;> rfl) (by simp only [ev, envOf, val_set, ofValue, ofCell, ↓reduceIte, Nat.reduceEqDiff] <;> rfl) A2 Ty.csz24 rfl (Nat.le_of_ble_eq_true rfl) (by first | rfl | exact ones3 (SA.one' hxs)) rfl rfl ?_; intro H8 n8 W8 A8 K8
        have A8 : H8.at H1.n = some (.row [.int .i64 (xk), .int .i64 (xn), xs] 24 false none) := A8
        have E8 := Ext.put W0 E2 (by have := E2.n; omega) K8 n8 W8
        have A1 := K8.own A1 (by omega)
        refine o_rd (r_assign (by simp only [ev, envOf, val_set, ofValue, ofCell, ↓reduceIte, Nat.reduceEqDiff] <;> rfl)) rfl rfl ?_
        refine o_nil ?_
        have hr9 : H8.read (.mt H1.n) 0 3 = some [.int .i64 (xk), .int .i64 (xn), xs] := read_mt A8 (Nat.le_of_ble_eq_true rfl)
        refine w_ret ⟨.inr rfl, rfl, .tup [.agg [.int .i64 (xk), .int .i64 (xn), xs], .bool (true)], (show resultA Try.prog [.cell 4 24, .tmp 5] _ = _ by simp only [resultA, resultsA, envOf, val_set, ↓reduceIte, Nat.reduceEqDiff, Option.map_some, hr9, Ty.agg24, Ty.csz24] <;> rfl), ?_⟩
        try dsimp only
        first | exact ⟨.inl ⟨by simp only [stepV]; rw [if_neg (by omega)], rfl⟩, E8⟩ | exact ⟨.inr ⟨xk, xn, xl, xs, by simp only [stepV]; rw [if_pos (by omega), Int.toNat_natCast, List.getElem?_eq_getElem hj, hxe], hxs, rfl⟩, E8⟩
    · have hg4 := dec_t hg4
      refine o_sk rfl ((wanted_of (b := true) rfl rfl rfl (by simp only [val_set, ↓reduceIte, Nat.reduceEqDiff] <;> rfl)).trans rfl) ?_
      refine o_sk rfl ((wanted_of (b := true) rfl rfl rfl (by simp only [val_set, ↓reduceIte, Nat.reduceEqDiff] <;> rfl)).trans rfl) ?_
      refine o_sk rfl ((wanted_of (b := true) rfl rfl rfl (by simp only [val_set, ↓reduceIte, Nat.reduceEqDiff] <;> rfl)).trans rfl) ?_
      refine o_sk rfl ((wanted_of (b := true) rfl rfl rfl (by simp only [val_set, ↓reduceIte, Nat.reduceEqDiff] <;> rfl)).trans rfl) ?_
      refine o_sk rfl ((wanted_of (b := true) rfl rfl rfl (by simp only [val_set, ↓reduceIte, Nat.reduceEqDiff] <;> rfl)).trans rfl) ?_
      refine o_rd (r_pick (t := true) (by simp only [ev, envOf, val_set, ofValue, ofCell, ↓reduceIte, Nat.reduceEqDiff] <;> rfl) (fun _ => (by simp only [ev, envOf, val_set, ofValue, ofCell, ↓reduceIte, Nat.reduceEqDiff] <;> rfl)) (fun h => by cases h)) rfl rfl ?_
      refine o_nil ?_
      refine w_cond (t := true) (by simp only [ev, envOf, val_set, ofValue, ofCell, ↓reduceIte, Nat.reduceEqDiff] <;> rfl) (fun _ => ?_) (fun h => by cases h)
      refine w_seq ?_
      refine w_region ?_
      refine o_rd (r_build (cs := [.int .i64 (0), .int .i64 (0), .nils]) Ty.zero24 Ty.pl24 (by simp only [evParts, ev, envOf, val_set, ofValue, ofCell, ↓reduceIte, Nat.reduceEqDiff] <;> rfl) rfl) rfl rfl ?_
      refine o_st W2 (by simp only [ev, envOf, val_set, ofValue, ofCell, ↓reduceIte, Nat.reduceEqDiff] <;> rfl) (by simp only [ev, envOf, val_set, ofValue, ofCell, ↓reduceIte, Nat.reduceEqDiff] <;> rfl) A2 Ty.csz24 rfl (Nat.le_of_ble_eq_true rfl) (by first | rfl | exact ones3 (SA.one' hxs)) rfl rfl ?_; intro H10 n10 W10 A10 K10
      have A10 : H10.at H1.n = some (.row [.int .i64 (0), .int .i64 (0), .nils] 24 false none) := A10
      have E10 := Ext.put W0 E2 (by have := E2.n; omega) K10 n10 W10
      have A1 := K10.own A1 (by omega)
      refine o_rd (r_assign (by simp only [ev, envOf, val_set, ofValue, ofCell, ↓reduceIte, Nat.reduceEqDiff] <;> rfl)) rfl rfl ?_
      refine o_nil ?_
      have hr11 : H10.read (.mt H1.n) 0 3 = some [.int .i64 (0), .int .i64 (0), .nils] := read_mt A10 (Nat.le_of_ble_eq_true rfl)
      refine w_ret ⟨.inr rfl, rfl, .tup [.agg [.int .i64 (0), .int .i64 (0), .nils], .bool (false)], (show resultA Try.prog [.cell 4 24, .tmp 5] _ = _ by simp only [resultA, resultsA, envOf, val_set, ↓reduceIte, Nat.reduceEqDiff, Option.map_some, hr11, Ty.agg24, Ty.csz24] <;> rfl), ?_⟩
      try dsimp only
      first | exact ⟨.inl ⟨by simp only [stepV]; rw [if_neg (by omega)], rfl⟩, E10⟩ | exact ⟨.inr ⟨xk, xn, xl, xs, by simp only [stepV]; rw [if_pos (by omega), Int.toNat_natCast, List.getElem?_eq_getElem hj, hxe], hxs, rfl⟩, E10⟩
  · have hg3 := dec_t hg3
    refine o_rd (r_fieldAddr Ty.fo24_0 (by simp only [ev, envOf, val_set, ofValue, ofCell, ↓reduceIte, Nat.reduceEqDiff] <;> rfl)) rfl ((wanted_of (b := true) rfl rfl rfl (by simp only [val_set, ↓reduceIte, Nat.reduceEqDiff] <;> rfl)).trans rfl) ?_
    refine o_rd (r_load1 (v := .int .i64 (ka)) Ty.agg3 (by simp only [ev, envOf, val_set, ofValue, ofCell, ↓reduceIte, Nat.reduceEqDiff] <;> rfl) (read_mt A1 (Nat.le_of_ble_eq_true rfl))) rfl ((wanted_of (b := true) rfl rfl rfl (by simp only [val_set, ↓reduceIte, Nat.reduceEqDiff] <;> rfl)).trans rfl) ?_
    refine o_rd (r_ne (a := ka) (b := 4) (by simp only [ev, envOf, val_set, ofValue, ofCell, ↓reduceIte, Nat.reduceEqDiff] <;> rfl) (by simp only [ev, envOf, val_set, ofValue, ofCell, ↓reduceIte, Nat.reduceEqDiff] <;> rfl)) rfl ((wanted_of (b := true) rfl rfl rfl (by simp only [val_set, ↓reduceIte, Nat.reduceEqDiff] <;> rfl)).trans rfl) ?_
    refine o_rd (r_pick (t := true) (by simp only [ev, envOf, val_set, ofValue, ofCell, ↓reduceIte, Nat.reduceEqDiff] <;> rfl) (fun _ => (by simp only [ev, envOf, val_set, ofValue, ofCell, ↓reduceIte, Nat.reduceEqDiff] <;> rfl)) (fun h => by cases h)) rfl rfl ?_
    refine o_rd (r_move (by simp only [ev, envOf, val_set, ofValue, ofCell, ↓reduceIte, Nat.reduceEqDiff] <;> rfl)) rfl rfl ?_
    cases hg12 : (decide (ka ≠ 4) : Bool)
    · have hg12 := dec_fn hg12
      refine o_rd (r_move (by simp only [ev, envOf, val_set, ofValue, ofCell, ↓reduceIte, Nat.reduceEqDiff] <;> rfl)) rfl ((wanted_of (b := false) rfl rfl rfl (by simp only [val_set, ↓reduceIte, Nat.reduceEqDiff] <;> rfl)).trans rfl) ?_
      refine o_rd (r_lt (a := ix) (b := 0) (by simp only [ev, envOf, val_set, ofValue, ofCell, ↓reduceIte, Nat.reduceEqDiff] <;> rfl) (by simp only [ev, envOf, val_set, ofValue, ofCell, ↓reduceIte, Nat.reduceEqDiff] <;> rfl)) rfl ((wanted_of (b := false) rfl rfl rfl (by simp only [val_set, ↓reduceIte, Nat.reduceEqDiff] <;> rfl)).trans rfl) ?_
      refine o_rd (r_pick (t := false) (by simp only [ev, envOf, val_set, ofValue, ofCell, ↓reduceIte, Nat.reduceEqDiff] <;> rfl) (fun h => by cases h) (fun _ => (by simp only [ev, envOf, val_set, ofValue, ofCell, ↓reduceIte, Nat.reduceEqDiff] <;> rfl))) rfl rfl ?_
      refine o_rd (r_move (by simp only [ev, envOf, val_set, ofValue, ofCell, ↓reduceIte, Nat.reduceEqDiff] <;> rfl)) rfl rfl ?_
      cases hg13 : (decide (ix < 0) : Bool)
      · have hg13 := dec_f hg13
        refine o_rd (r_move (by simp only [ev, envOf, val_set, ofValue, ofCell, ↓reduceIte, Nat.reduceEqDiff] <;> rfl)) rfl ((wanted_of (b := false) rfl rfl rfl (by simp only [val_set, ↓reduceIte, Nat.reduceEqDiff] <;> rfl)).trans rfl) ?_
        refine o_rd (r_fieldAddr Ty.fo24_2 (by simp only [ev, envOf, val_set, ofValue, ofCell, ↓reduceIte, Nat.reduceEqDiff] <;> rfl)) rfl ((wanted_of (b := false) rfl rfl rfl (by simp only [val_set, ↓reduceIte, Nat.reduceEqDiff] <;> rfl)).trans rfl) ?_
        refine o_rd (r_load1 (v := sa) Ty.agg22 (by simp only [ev, envOf, val_set, ofValue, ofCell, ↓reduceIte, Nat.reduceEqDiff] <;> rfl) (read_mt A1 (Nat.le_of_ble_eq_true rfl))) rfl ((wanted_of (b := false) rfl rfl rfl (by simp only [val_set, ↓reduceIte, Nat.reduceEqDiff] <;> rfl)).trans rfl) ?_
        refine o_rd (r_len (n := la.length) Try.underlying22 (by simp only [ev, envOf, val_set, ofValue, ofCell, ↓reduceIte, Nat.reduceEqDiff] <;> rfl) hS.lenOf) rfl ((wanted_of (b := false) rfl rfl rfl (by simp only [val_set, ↓reduceIte, Nat.reduceEqDiff] <;> rfl)).trans rfl) ?_
        refine o_rd (r_ge (a := ix) (b := ((la.length : Nat) : Int)) (by simp only [ev, envOf, val_set, ofValue, ofCell, ↓reduceIte, Nat.reduceEqDiff] <;> rfl) (by simp only [ev, envOf, val_set, ofValue, ofCell, ↓reduceIte, Nat.reduceEqDiff] <;> rfl)) rfl ((wanted_of (b := false) rfl rfl rfl (by simp only [val_set, ↓reduceIte, Nat.reduceEqDiff] <;> rfl)).trans rfl) ?_
        refine o_rd (r_pick (t := false) (by simp only [ev, envOf, val_set, ofValue, ofCell, ↓reduceIte, Nat.reduceEqDiff] <;> rfl) (fun h => by cases h) (fun _ => (by simp only [ev, envOf, val_set, ofValue, ofCell, ↓reduceIte, Nat.reduceEqDiff] <;> rfl))) rfl rfl ?_
        refine o_nil ?_
        refine w_cond (by simp only [ev, envOf, val_set, ofValue, ofCell, ↓reduceIte, Nat.reduceEqDiff] <;> rfl) (fun hc14 => ?_) (fun hc14 => ?_)
        · have hc14 := dec_t hc14
          refine w_seq ?_
          refine w_region ?_
          refine o_rd (r_build (cs := [.int .i64 (0), .int .i64 (0), .nils]) Ty.zero24 Ty.pl24 (by simp only [evParts, ev, envOf, val_set, ofValue, ofCell, ↓reduceIte, Nat.reduceEqDiff] <;> rfl) rfl) rfl rfl ?_
          refine o_st W2 (by simp only [ev, envOf, val_set, ofValue, ofCell, ↓reduceIte, Nat.reduceEqDiff] <;> rfl) (by simp only [ev, envOf, val_set, ofValue, ofCell, ↓reduceIte, Nat.reduceEqDiff] <;> rfl) A2 Ty.csz24 rfl (Nat.le_of_ble_eq_true rfl) (by first | rfl | exact ones3 (SA.one' hxs)) rfl rfl ?_; intro H15 n15 W15 A15 K15
          have A15 : H15.at H1.n = some (.row [.int .i64 (0), .int .i64 (0), .nils] 24 false none) := A15
          have E15 := Ext.put W0 E2 (by have := E2.n; omega) K15 n15 W15
          have A1 := K15.own A1 (by omega)
          refine o_rd (r_assign (by simp only [ev, envOf, val_set, ofValue, ofCell, ↓reduceIte, Nat.reduceEqDiff] <;> rfl)) rfl rfl ?_
          refine o_nil ?_
          have hr16 : H15.read (.mt H1.n) 0 3 = some [.int .i64 (0), .int .i64 (0), .nils] := read_mt A15 (Nat.le_of_ble_eq_true rfl)
          refine w_ret ⟨.inr rfl, rfl, .tup [.agg [.int .i64 (0), .int .i64 (0), .nils], .bool (false)], (show resultA Try.prog [.cell 4 24, .tmp 5] _ = _ by simp only [resultA, resultsA, envOf, val_set, ↓reduceIte, Nat.reduceEqDiff, Option.map_some, hr16, Ty.agg24, Ty.csz24] <;> rfl), ?_⟩
          try dsimp only
          first | exact ⟨.inl ⟨by simp only [stepV]; rw [if_neg (by omega)], rfl⟩, E15⟩ | exact ⟨.inr ⟨xk, xn, xl, xs, by simp only [stepV]; rw [if_pos (by omega), Int.toNat_natCast, List.getElem?_eq_getElem hj, hxe], hxs, rfl⟩, E15⟩
        · have hc14 := dec_f hc14
          refine w_skip ?_
          refine w_seq ?_
          refine w_region ?_
          refine o_rd (r_fieldAddr Ty.fo24_2 (by simp only [ev, envOf, val_set, ofValue, ofCell, ↓reduceIte, Nat.reduceEqDiff] <;> rfl)) rfl rfl ?_
          refine o_rd (r_load1 (v := sa) Ty.agg22 (by simp only [ev, envOf, val_set, ofValue, ofCell, ↓reduceIte, Nat.reduceEqDiff] <;> rfl) (read_mt A1 (Nat.le_of_ble_eq_true rfl))) rfl rfl ?_
          refine o_rd (r_move (by simp only [ev, envOf, val_set, ofValue, ofCell, ↓reduceIte, Nat.reduceEqDiff] <;> rfl)) rfl rfl ?_
          obtain ⟨j, rfl⟩ := Int.eq_ofNat_of_zero_le (show 0 ≤ ix by omega)
          have hj : j < la.length := by omega
          obtain ⟨loc1, off1, cap1, ce1, rfl, hr1, hv1⟩ := hS.get hj
          obtain ⟨xk, xn, xl, xs, rfl, hxe, hxs⟩ := hv1.inv
          refine o_rd (r_indexAddr Try.underlying22 Ty.csz24 (by simp only [ev, envOf, val_set, ofValue, ofCell, ↓reduceIte, Nat.reduceEqDiff] <;> rfl) (by simp only [ev, envOf, val_set, ofValue, ofCell, ↓reduceIte, Nat.reduceEqDiff] <;> rfl) hj) rfl rfl ?_
          refine o_rd (r_loadN Ty.agg24 Ty.csz24 (by simp only [ev, envOf, val_set, ofValue, ofCell, ↓reduceIte, Nat.reduceEqDiff] <;> rfl) ((EB.trans E2).read hr1)) rfl rfl ?_
          refine o_st W2 (by simp only [ev, envOf, val_set, ofValue, ofCell, ↓reduceIte, Nat.reduceEqDiff] <;> rfl) (by simp only [ev, envOf, val_set, ofValue, ofCell, ↓reduceIte, Nat.reduceEqDiff] <;> rfl) A2 Ty.csz24 rfl (Nat.le_of_ble_eq_true rfl) (by first | rfl | exact ones3 (SA.one' hxs)) rfl rfl ?_; intro H17 n17 W17 A17 K17
          have A17 : H17.at H1.n = some (.row [.int .i64 (xk), .int .i64 (xn), xs] 24 false none) := A17
          have E17 := Ext.put W0 E2 (by have := E2.n; omega) K17 n17 W17
          have A1 := K17.own A1 (by omega)
          refine o_rd (r_assign (by simp only [ev, envOf, val_set, ofValue, ofCell, ↓reduceIte, Nat.reduceEqDiff] <;> rfl)) rfl rfl ?_
          refine o_nil ?_
          have hr18 : H17.read (.mt H1.n) 0 3 = some [.int .i64 (xk), .int .i64 (xn), xs] := read_mt A17 (Nat.le_of_ble_eq_true rfl)
          refine w_ret ⟨.inr rfl, rfl, .tup [.agg [.int .i64 (xk), .int .i64 (xn), xs], .bool (true)], (show resultA Try.prog [.cell 4 24, .tmp 5] _ = _ by simp only [resultA, resultsA, envOf, val_set, ↓reduceIte, Nat.reduceEqDiff, Option.map_some, hr18, Ty.agg24, Ty.csz24] <;> rfl), ?_⟩
          try dsimp only
          first | exact ⟨.inl ⟨by simp only [stepV]; rw [if_neg (by omega)], rfl⟩, E17⟩ | exact ⟨.inr ⟨xk, xn, xl, xs, by simp only [stepV]; rw [if_pos (by omega), Int.toNat_natCast, List.getElem?_eq_getElem hj, hxe], hxs, rfl⟩, E17⟩
      · have hg13 := dec_t hg13
        refine o_sk rfl ((wanted_of (b := true) rfl rfl rfl (by simp only [val_set, ↓reduceIte, Nat.reduceEqDiff] <;> rfl)).trans rfl) ?_
        refine o_sk rfl ((wanted_of (b := true) rfl rfl rfl (by simp only [val_set, ↓reduceIte, Nat.reduceEqDiff] <;> rfl)).trans rfl) ?_
        refine o_sk rfl ((wanted_of (b := true) rfl rfl rfl (by simp only [val_set, ↓reduceIte, Nat.reduceEqDiff] <;> rfl)).trans rfl) ?_
        refine o_sk rfl ((wanted_of (b := true) rfl rfl rfl (by simp only [val_set, ↓reduceIte, Nat.reduceEqDiff] <;> rfl)).trans rfl) ?_
        refine o_sk rfl ((wanted_of (b := true) rfl rfl rfl (by simp only [val_set, ↓reduceIte, Nat.reduceEqDiff] <;> rfl)).trans rfl) ?_
        refine o_rd (r_pick (t := true) (by simp only [ev, envOf, val_set, ofValue, ofCell, ↓reduceIte, Nat.reduceEqDiff] <;> rfl) (fun _ => (by simp only [ev, envOf, val_set, ofValue, ofCell, ↓reduceIte, Nat.reduceEqDiff] <;> rfl)) (fun h => by cases h)) rfl rfl ?_
        refine o_nil ?_
        refine w_cond (t := true) (by simp only [ev, envOf, val_set, ofValue, ofCell, ↓reduceIte, Nat.reduceEqDiff] <;> rfl) (fun _ => ?_) (fun h => by cases h)
        refine w_seq ?_
        refine w_region ?_
        refine o_rd (r_build (cs := [.int .i64 (0), .int .i64 (0), .nils]) Ty.zero24 Ty.pl24 (by simp only [evParts, ev, envOf, val_set, ofValue, ofCell, ↓reduceIte, Nat.reduceEqDiff] <;> rfl) rfl) rfl rfl ?_
        refine o_st W2 (by simp only [ev, envOf, val_set, ofValue, ofCell, ↓reduceIte, Nat.reduceEqDiff] <;> rfl) (by simp only [ev, envOf, val_set, ofValue, ofCell, ↓reduceIte, Nat.reduceEqDiff] <;> rfl) A2 Ty.csz24 rfl (Nat.le_of_ble_eq_true rfl) (by first | rfl | exact ones3 (SA.one' hxs)) rfl rfl ?_; intro H19 n19 W19 A19 K19
        have A19 : H19.at H1.n = some (.row [.int .i64 (0), .int .i64 (0), .nils] 24 false none) := A19
        have E19 := Ext.put W0 E2 (by have := E2.n; omega) K19 n19 W19
        have A1 := K19.own A1 (by omega)
        refine o_rd (r_assign (by simp only [ev, envOf, val_set, ofValue, ofCell, ↓reduceIte, Nat.reduceEqDiff] <;> rfl)) rfl rfl ?_
        refine o_nil ?_
        have hr20 : H19.read (.mt H1.n) 0 3 = some [.int .i64 (0), .int .i64 (0), .nils] := read_mt A19 (Nat.le_of_ble_eq_true rfl)
        refine w_ret ⟨.inr rfl, rfl, .tup [.agg [.int .i64 (0), .int .i64 (0), .nils], .bool (false)], (show resultA Try.prog [.cell 4 24, .tmp 5] _ = _ by simp only [resultA, resultsA, envOf, val_set, ↓reduceIte, Nat.reduceEqDiff, Option.map_some, hr20, Ty.agg24, Ty.csz24] <;> rfl), ?_⟩
        try dsimp only
        first | exact ⟨.inl ⟨by simp only [stepV]; rw [if_neg (by omega)], rfl⟩, E19⟩ | exact ⟨.inr ⟨xk, xn, xl, xs, by simp only [stepV]; rw [if_pos (by omega), Int.toNat_natCast, List.getElem?_eq_getElem hj, hxe], hxs, rfl⟩, E19⟩
    · have hg12 := dec_t hg12
      refine o_sk rfl ((wanted_of (b := true) rfl rfl rfl (by simp only [val_set, ↓reduceIte, Nat.reduceEqDiff] <;> rfl)).trans rfl) ?_
      refine o_sk rfl ((wanted_of (b := true) rfl rfl rfl (by simp only [val_set, ↓reduceIte, Nat.reduceEqDiff] <;> rfl)).trans rfl) ?_
      refine o_rd (r_pick (t := true) (by simp only [ev, envOf, val_set, ofValue, ofCell, ↓reduceIte, Nat.reduceEqDiff] <;> rfl) (fun _ => (by simp only [ev, envOf, val_set, ofValue, ofCell, ↓reduceIte, Nat.reduceEqDiff] <;> rfl)) (fun h => by cases h)) rfl rfl ?_
      refine o_rd (r_move (by simp only [ev, envOf, val_set, ofValue, ofCell, ↓reduceIte, Nat.reduceEqDiff] <;> rfl)) rfl rfl ?_
      refine o_sk rfl ((wanted_of (b := true) rfl rfl rfl (by simp only [val_set, ↓reduceIte, Nat.reduceEqDiff] <;> rfl)).trans rfl) ?_
      refine o_sk rfl ((wanted_of (b := true) rfl rfl rfl (by simp only [val_set, ↓reduceIte, Nat.reduceEqDiff] <;> rfl)).trans rfl) ?_
      refine o_sk rfl ((wanted_of (b := true) rfl rfl rfl (by simp only [val_set, ↓reduceIte, Nat.reduceEqDiff] <;> rfl)).trans rfl) ?_
      refine o_sk rfl ((wanted_of (b := true) rfl rfl rfl (by simp only [val_set, ↓reduceIte, Nat.reduceEqDiff] <;> rfl)).trans rfl) ?_
      refine o_sk rfl ((wanted_of (b := true) rfl rfl rfl (by simp only [val_set, ↓reduceIte, Nat.reduceEqDiff] <;> rfl)).trans rfl) ?_
      refine o_rd (r_pick (t := true) (by simp only [ev, envOf, val_set, ofValue, ofCell, ↓reduceIte, Nat.reduceEqDiff] <;> rfl) (fun _ => (by simp only [ev, envOf, val_set, ofValue, ofCell, ↓reduceIte, Nat.reduceEqDiff] <;> rfl)) (fun h => by cases h)) rfl rfl ?_
      refine o_nil ?_
      refine w_cond (t := true) (by simp only [ev, envOf, val_set, ofValue, ofCell, ↓reduceIte, Nat.reduceEqDiff] <;> rfl) (fun _ => ?_) (fun h => by cases h)
      refine w_seq ?_
      refine w_region ?_
      refine o_rd (r_build (cs := [.int .i64 (0), .int .i64 (0), .nils]) Ty.zero24 Ty.pl24 (by simp only [evParts, ev, envOf, val_set, ofValue, ofCell, ↓reduceIte, Nat.reduceEqDiff] <;> rfl) rfl) rfl rfl ?_
      refine o_st W2 (by simp only [ev, envOf, val_set, ofValue, ofCell, ↓reduceIte, Nat.reduceEqDiff] <;> rfl) (by simp only [ev, envOf, val_set, ofValue, ofCell, ↓reduceIte, Nat.reduceEqDiff] <;> rfl) A2 Ty.csz24 rfl (Nat.le_of_ble_eq_true rfl) (by first | rfl | exact ones3 (SA.one' hxs)) rfl rfl ?_; intro H21 n21 W21 A21 K21
      have A21 : H21.at H1.n = some (.row [.int .i64 (0), .int .i64 (0), .nils] 24 false none) := A21
      have E21 := Ext.put W0 E2 (by have := E2.n; omega) K21 n21 W21
      have A1 := K21.own A1 (by omega)
      refine o_rd (r_assign (by simp only [ev, envOf, val_set, ofValue, ofCell, ↓reduceIte, Nat.reduceEqDiff] <;> rfl)) rfl rfl ?_
      refine o_nil ?_
      have hr22 : H21.read (.mt H1.n) 0 3 = some [.int .i64 (0), .int .i64 (0), .nils] := read_mt A21 (Nat.le_of_ble_eq_true rfl)
      refine w_ret ⟨.inr rfl, rfl, .tup [.agg [.int .i64 (0), .int .i64 (0), .nils], .bool (false)], (show resultA Try.prog [.cell 4 24, .tmp 5] _ = _ by simp only [resultA, resultsA, envOf, val_set, ↓reduceIte, Nat.reduceEqDiff, Option.map_some, hr22, Ty.agg24, Ty.csz24] <;> rfl), ?_⟩
      try dsimp only
      first | exact ⟨.inl ⟨by simp only [stepV]; rw [if_neg (by omega)], rfl⟩, E21⟩ | exact ⟨.inr ⟨xk, xn, xl, xs, by simp only [stepV]; rw [if_pos (by omega), Int.toNat_natCast, List.getElem?_eq_getElem hj, hxe], hxs, rfl⟩, E21⟩
theorem step_no (ho : NoOrcBut [9, 35, 36] orc) {HB H0 : AH} (W0 : Wf H0) (EB : Ext HB H0) (ka na ix : Int) (la : List V) (sa : AV) (hS : SA HB la sa) (h : stepV (.mk ka na la) ix = none) : VI.Fin Try.prog orc 43 [.agg [.int .i64 ka, .int .i64 na, sa], .int .i64 ix] H0 (fun r H' => r = .tup [.agg [.int .i64 0, .int .i64 0, .nils], .bool false] ∧ Ext H0 H') :=
  (step_fin ho W0 EB ka na ix la sa hS).mono fun r H' hh => by
    obtain ⟨(⟨_, h2⟩ | ⟨xk, xn, xl, xs, h1, _⟩), h3⟩ := hh
    · exact ⟨h2, h3⟩
    · rw [h] at h1; cases h1
theorem step_yes (ho : NoOrcBut [9, 35, 36] orc) {HB H0 : AH} (W0 : Wf H0) (EB : Ext HB H0) (ka na ix : Int) (la : List V) (sa : AV) (hS : SA HB la sa) {x : V} (h : stepV (.mk ka na la) ix = some x) : VI.Fin Try.prog orc 43 [.agg [.int .i64 ka, .int .i64 na, sa], .int .i64 ix] H0 (fun r H' => ∃ xk xn xl xs, x = .mk xk xn xl ∧ SA HB xl xs ∧ r = .tup [.agg [.int .i64 xk, .int .i64 xn, xs], .bool true] ∧ Ext H0 H') :=
  (step_fin ho W0 EB ka na ix la sa hS).mono fun r H' hh => by
    obtain ⟨(⟨h1, _⟩ | ⟨xk, xn, xl, xs, h1, h2, h4⟩), h3⟩ := hh
    · rw [h] at h1; cases h1
    · rw [h] at h1; injection h1 with h1; exact ⟨xk, xn, xl, xs, h1, h2, h4, h3⟩
set_option maxRecDepth 100000 in
set_option maxHeartbeats 4000000 in
theorem part_fin (ho : NoOrcBut [9, 35, 36] orc) {H0 : AH} (W0 : Wf H0) (ka na : Int) (la : List V) (sa sp : AV) (ps : List Int) (hS : SA H0 la sa) (hP : SI H0 ps sp) (hN : (V.mk ka na la).cnt ≤ 1000000) : Fin Try.prog orc 27 [.agg [.int .i64 (ka), .int .i64 (na), sa], sp] H0 (fun r H' => (partV (.mk ka na la) ps = none ∧ r = .tup [.agg [.int .i64 0, .int .i64 0, .nils], .bool false] ∧ Ext H0 H') ∨ ∃ x cn lo, partV (.mk ka na la) ps = some x ∧ r = .tup [.agg cn, .bool true] ∧ H0.n ≤ lo ∧ OA H' lo H'.n x cn ∧ Ext H0 H') := by
  have E0 := Ext.refl W0
  have hpb := hP.bound
  refine fin_of Try.func27 rfl (by rw [Try.ntmps27]; simp) (ho _ rfl _ _) ?_
  rw [Try.ntmps27]
  refine w_seq ?_
  refine w_region ?_
  refine o_nw W0 (a_box (by simp only [ev, envOf, val_set, ofValue, ofCell, ↓reduceIte, Nat.reduceEqDiff] <;> rfl)) rfl rfl rfl (by simp) ?_; intro H1 n1 W1 X1 A1
  have A1 : H1.at H0.n = some (.row [.int .i64 (ka), .int .i64 (na), sa] 24 false none) := A1
  have E1 := E0.trans X1
  refine o_nw W1 (a_alloc Ty.zero24) rfl rfl rfl (by simp) ?_; intro H2 n2 W2 X2 A2
  have A2 : H2.at H1.n = some (.row [.int .i64 (0), .int .i64 (0), .nils] 24 false none) := A2
  have E2 := E1.trans X2
  have A1 := X2.keep _ _ A1
  refine o_rd (r_assign (by simp only [ev, envOf, val_set, ofValue, ofCell, ↓reduceIte, Nat.reduceEqDiff] <;> rfl)) rfl rfl ?_
  refine o_nil ?_
  refine w_seq ?_
  refine w_seq ?_
  refine w_region ?_
  refine o_rd (r_move (by simp only [ev, envOf, val_set, ofValue, ofCell, ↓reduceIte, Nat.reduceEqDiff] <;> rfl)) rfl rfl ?_
  refine o_rd (r_len (n := ps.length) Try.underlying28 (by simp only [ev, envOf, val_set, ofValue, ofCell, ↓reduceIte, Nat.reduceEqDiff] <;> rfl) hP.lenOf) rfl rfl ?_
  refine o_rd (r_move (by simp only [ev, envOf, val_set, ofValue, ofCell, ↓reduceIte, Nat.reduceEqDiff] <;> rfl)) rfl rfl ?_
  refine o_nil ?_
  refine w_block ?_
  refine w_loop (fun m s => ∃ (e : Env) (H : AH) (i : Nat) (kj : Int) (nj : Int) (lj : List V) (sj : AV), s = ⟨e, H, []⟩ ∧ e.val 2 = .ptr (.mt (H0.n)) (0) ∧ e.val 4 = .ptr (.mt (H1.n)) (0) ∧ e.val 5 = .bool (false) ∧ e.val 10 = sp ∧ e.val 11 = .int .i64 (((ps.length : Nat) : Int)) ∧ e.val 12 = .int .i64 (((i : Nat) : Int)) ∧ Wf H ∧ Ext H0 H ∧ H.at (H0.n) = some (.row [.int .i64 (kj), .int .i64 (nj), sj] 24 false none) ∧ H.at (H1.n) = some (.row [.int .i64 (0), .int .i64 (0), .nils] 24 false none) ∧ (i + m = ps.length) ∧ (SA H0 lj sj) ∧ (partV (.mk kj nj lj) (ps.drop i) = partV (.mk ka na la) ps) ∧ ((V.mk kj nj lj).cnt ≤ 1000000)) (ps.length) ⟨_, H2, 0, ka, na, la, sa, rfl, (by simp only [val_set, ↓reduceIte, Nat.reduceEqDiff] <;> rfl), (by simp only [val_set, ↓reduceIte, Nat.reduceEqDiff] <;> rfl), (by simp only [val_set, ↓reduceIte, Nat.reduceEqDiff] <;> rfl), (by simp only [val_set, ↓reduceIte, Nat.reduceEqDiff] <;> rfl), (by simp only [val_set, ↓reduceIte, Nat.reduceEqDiff] <;> rfl), (by simp only [val_set, ↓reduceIte, Nat.reduceEqDiff] <;> rfl), W2, E2, A1, A2, by omega, hS, rfl, hN⟩ ?_
  intro m s hi
  obtain ⟨e, H3, i, kj, nj, lj, sj, rfl, v2, v4, v5, v10, v11, v12, W3, E3, A1, A2, hm, hSj, hpj, hcj⟩ := hi
  have l3_0 := W3.lt A1
  have l3_1 := W3.lt A2
  refine w_seq ?_
  refine w_region ?_
  refine o_rd (r_lt (a := ((i : Nat) : Int)) (b := ((ps.length : Nat) : Int)) (by simp only [ev, envOf, val_set, ofValue, ofCell, ↓reduceIte, Nat.reduceEqDiff, v2, v4, v5, v10, v11, v12] <;> rfl) (by simp only [ev, envOf, val_set, ofValue, ofCell, ↓reduceIte, Nat.reduceEqDiff, v2, v4, v5, v10, v11, v12] <;> rfl)) rfl rfl ?_
  refine o_nil ?_
  refine w_seq ?_
  refine w_cond (by simp only [ev, envOf, val_set, ofValue, ofCell, ↓reduceIte, Nat.reduceEqDiff, v2, v4, v5, v10, v11, v12] <;> rfl) (fun hc4 => ?_) (fun hc4 => ?_)
  · have hc4 := dec_t hc4
    refine w_skip ?_
    refine w_seq ?_
    refine w_block ?_
    refine w_seq ?_
    refine w_region ?_
    have hi1 : i < ps.length := by omega
    obtain ⟨loc2, off2, cap2, rfl, hr2⟩ := hP.get hi1
    refine o_rd (r_indexAddr Try.underlying28 Ty.csz3 (by simp only [ev, envOf, val_set, ofValue, ofCell, ↓reduceIte, Nat.reduceEqDiff, v2, v4, v5, v10, v11, v12] <;> rfl) (by simp only [ev, envOf, val_set, ofValue, ofCell, ↓reduceIte, Nat.reduceEqDiff, v2, v4, v5, v10, v11, v12] <;> rfl) hi1) rfl rfl ?_
    refine o_rd (r_load1 Ty.agg3 (by simp only [ev, envOf, val_set, ofValue, ofCell, ↓reduceIte, Nat.reduceEqDiff, v2, v4, v5, v10, v11, v12] <;> rfl) (E3.read hr2)) rfl rfl ?_
    refine o_rd (r_assign (by simp only [ev, envOf, val_set, ofValue, ofCell, ↓reduceIte, Nat.reduceEqDiff, v2, v4, v5, v10, v11, v12] <;> rfl)) rfl rfl ?_
    refine o_nil ?_
    refine w_seq ?_
    refine w_region ?_
    refine o_rd (r_loadN (cs := [.int .i64 (kj), .int .i64 (nj), sj]) Ty.agg24 Ty.csz24 (by simp only [ev, envOf, val_set, ofValue, ofCell, ↓reduceIte, Nat.reduceEqDiff, v2, v4, v5, v10, v11, v12] <;> rfl) (read_mt A1 (Nat.le_of_ble_eq_true rfl))) rfl rfl ?_
    refine o_rd (r_move (by simp only [ev, envOf, val_set, ofValue, ofCell, ↓reduceIte, Nat.reduceEqDiff, v2, v4, v5, v10, v11, v12] <;> rfl)) rfl rfl ?_
    rcases hst : stepV (.mk kj nj lj) ps[i] with _ | x
    · skip
      refine o_cl rfl rfl (by simp only [evs, ev, envOf, val_set, ofValue, ofCell, ↓reduceIte, Nat.reduceEqDiff, v2, v4, v5, v10, v11, v12] <;> rfl) rfl (step_no ho W3 E3 kj nj ps[i] lj sj hSj hst) rfl rfl ?_; rintro _ H5 ⟨rfl, X5⟩
      have W5 := X5.wf; have E5 := E3.trans X5
      have A1 := X5.keep _ _ A1
      have A2 := X5.keep _ _ A2
      have n5 := X5.n
      refine o_rd (r_move (by simp only [ev, envOf, val_set, ofValue, ofCell, ↓reduceIte, Nat.reduceEqDiff, v2, v4, v5, v10, v11, v12] <;> rfl)) rfl rfl ?_
      refine o_rd (r_extract (by simp only [ev, envOf, val_set, ofValue, ofCell, ↓reduceIte, Nat.reduceEqDiff, v2, v4, v5, v10, v11, v12] <;> rfl) rfl) rfl rfl ?_
      refine o_rd (r_extract (by simp only [ev, envOf, val_set, ofValue, ofCell, ↓reduceIte, Nat.reduceEqDiff, v2, v4, v5, v10, v11, v12] <;> rfl) rfl) rfl rfl ?_
      refine o_nw W5 (a_alloc Ty.zero24) rfl rfl rfl (by simp) ?_; intro H6 n6 W6 X6 A6
      have A6 : H6.at H5.n = some (.row [.int .i64 (0), .int .i64 (0), .nils] 24 false none) := A6
      have E6 := E5.trans X6
      have A1 := X6.keep _ _ A1
      have A2 := X6.keep _ _ A2
      refine o_st W6 (by simp only [ev, envOf, val_set, ofValue, ofCell, ↓reduceIte, Nat.reduceEqDiff, v2, v4, v5, v10, v11, v12] <;> rfl) (by simp only [ev, envOf, val_set, ofValue, ofCell, ↓reduceIte, Nat.reduceEqDiff, v2, v4, v5, v10, v11, v12] <;> rfl) A6 Ty.csz24 rfl (Nat.le_of_ble_eq_true rfl) (by first | rfl | exact ones3 (SA.one' hSj) | exact ones3 (SA.one' hxs) | exact hon.va.ones) rfl rfl ?_; intro H7 n7 W7 A7 K7
      have A7 : H7.at H5.n = some (.row [.int .i64 (0), .int .i64 (0), .nils] 24 false none) := A7
      have E7 := Ext.put W0 E6 (by have := E6.n; omega) K7 n7 W7
      have A1 := K7.own A1 (by omega)
      have A2 := K7.own A2 (by omega)
      refine o_rd (r_assign (by simp only [ev, envOf, val_set, ofValue, ofCell, ↓reduceIte, Nat.reduceEqDiff, v2, v4, v5, v10, v11, v12] <;> rfl)) rfl rfl ?_
      refine o_nil ?_
      refine w_seq ?_
      refine w_seq ?_
      refine w_region ?_
      refine o_rd (r_move (by simp only [ev, envOf, val_set, ofValue, ofCell, ↓reduceIte, Nat.reduceEqDiff, v2, v4, v5, v10, v11, v12] <;> rfl)) rfl rfl ?_
      refine o_rd (r_not (by simp only [ev, envOf, val_set, ofValue, ofCell, ↓reduceIte, Nat.reduceEqDiff, v2, v4, v5, v10, v11, v12] <;> rfl)) rfl rfl ?_
      refine o_nil ?_
      refine w_cond (t := true) (by simp only [ev, envOf, val_set, ofValue, ofCell, ↓reduceIte, Nat.reduceEqDiff, v2, v4, v5, v10, v11, v12] <;> rfl) (fun _ => ?_) (fun h => by cases h)
      refine w_seq ?_
      refine w_region ?_
      refine o_rd (r_build (cs := [.int .i64 (0), .int .i64 (0), .nils]) Ty.zero24 Ty.pl24 (by simp only [evParts, ev, envOf, val_set, ofValue, ofCell, ↓reduceIte, Nat.reduceEqDiff, v2, v4, v5, v10, v11, v12] <;> rfl) rfl) rfl rfl ?_
      refine o_st W7 (by simp only [ev, envOf, val_set, ofValue, ofCell, ↓reduceIte, Nat.reduceEqDiff, v2, v4, v5, v10, v11, v12] <;> rfl) (by simp only [ev, envOf, val_set, ofValue, ofCell, ↓reduceIte, Nat.reduceEqDiff, v2, v4, v5, v10, v11, v12] <;> rfl) A2 Ty.csz24 rfl (Nat.le_of_ble_eq_true rfl) (by first | rfl | exact ones3 (SA.one' hSj) | exact ones3 (SA.one' hxs) | exact hon.va.ones) rfl rfl ?_; intro H8 n8 W8 A8 K8
      have A8 : H8.at H1.n = some (.row [.int .i64 (0), .int .i64 (0), .nils] 24 false none) := A8
      have E8 := Ext.put W0 E7 (by have := E7.n; omega) K8 n8 W8
      have A1 := K8.own A1 (by omega)
      have A7 := K8.own A7 (by omega)
      refine o_rd (r_assign (by simp only [ev, envOf, val_set, ofValue, ofCell, ↓reduceIte, Nat.reduceEqDiff, v2, v4, v5, v10, v11, v12] <;> rfl)) rfl rfl ?_
      refine o_nil ?_
      have hr9 : H8.read (.mt H1.n) 0 3 = some [.int .i64 (0), .int .i64 (0), .nils] := read_mt A8 (Nat.le_of_ble_eq_true rfl)
      refine w_ret ⟨.inr rfl, rfl, .tup [.agg [.int .i64 (0), .int .i64 (0), .nils], .bool (false)], (show resultA Try.prog [.cell 4 24, .tmp 5] _ = _ by simp only [resultA, resultsA, envOf, val_set, ↓reduceIte, Nat.reduceEqDiff, Option.map_some, v2, v4, v5, v10, v11, v12, hr9, Ty.agg24, Ty.csz24] <;> rfl), ?_⟩
      try dsimp only
      refine .inl ⟨?_, rfl, E8⟩
      rw [← hpj, List.drop_eq_getElem_cons hi1]; simp only [partV, hst]
    · skip
      refine o_cl rfl rfl (by simp only [evs, ev, envOf, val_set, ofValue, ofCell, ↓reduceIte, Nat.reduceEqDiff, v2, v4, v5, v10, v11, v12] <;> rfl) rfl (step_yes ho W3 E3 kj nj ps[i] lj sj hSj hst) rfl rfl ?_; rintro _ H10 ⟨xk, xn, xl, xs, rfl, hxs, rfl, X10⟩
      have W10 := X10.wf; have E10 := E3.trans X10
      have A1 := X10.keep _ _ A1
      have A2 := X10.keep _ _ A2
      have n10 := X10.n
      refine o_rd (r_move (by simp only [ev, envOf, val_set, ofValue, ofCell, ↓reduceIte, Nat.reduceEqDiff, v2, v4, v5, v10, v11, v12] <;> rfl)) rfl rfl ?_
      refine o_rd (r_extract (by simp only [ev, envOf, val_set, ofValue, ofCell, ↓reduceIte, Nat.reduceEqDiff, v2, v4, v5, v10, v11, v12] <;> rfl) rfl) rfl rfl ?_
      refine o_rd (r_extract (by simp only [ev, envOf, val_set, ofValue, ofCell, ↓reduceIte, Nat.reduceEqDiff, v2, v4, v5, v10, v11, v12] <;> rfl) rfl) rfl rfl ?_
      refine o_nw W10 (a_alloc Ty.zero24) rfl rfl rfl (by simp) ?_; intro H11 n11 W11 X11 A11
      have A11 : H11.at H10.n = some (.row [.int .i64 (0), .int .i64 (0), .nils] 24 false none) := A11
      have E11 := E10.trans X11
      have A1 := X11.keep _ _ A1
      have A2 := X11.keep _ _ A2
      refine o_st W11 (by simp only [ev, envOf, val_set, ofValue, ofCell, ↓reduceIte, Nat.reduceEqDiff, v2, v4, v5, v10, v11, v12] <;> rfl) (by simp only [ev, envOf, val_set, ofValue, ofCell, ↓reduceIte, Nat.reduceEqDiff, v2, v4, v5, v10, v11, v12] <;> rfl) A11 Ty.csz24 rfl (Nat.le_of_ble_eq_true rfl) (by first | rfl | exact ones3 (SA.one' hSj) | exact ones3 (SA.one' hxs) | exact hon.va.ones) rfl rfl ?_; intro H12 n12 W12 A12 K12
      have A12 : H12.at H10.n = some (.row [.int .i64 (xk), .int .i64 (xn), xs] 24 false none) := A12
      have E12 := Ext.put W0 E11 (by have := E11.n; omega) K12 n12 W12
      have A1 := K12.own A1 (by omega)
      have A2 := K12.own A2 (by omega)
      refine o_rd (r_assign (by simp only [ev, envOf, val_set, ofValue, ofCell, ↓reduceIte, Nat.reduceEqDiff, v2, v4, v5, v10, v11, v12] <;> rfl)) rfl rfl ?_
      refine o_nil ?_
      refine w_seq ?_
      refine w_seq ?_
      refine w_region ?_
      refine o_rd (r_move (by simp only [ev, envOf, val_set, ofValue, ofCell, ↓reduceIte, Nat.reduceEqDiff, v2, v4, v5, v10, v11, v12] <;> rfl)) rfl rfl ?_
      refine o_rd (r_not (by simp only [ev, envOf, val_set, ofValue, ofCell, ↓reduceIte, Nat.reduceEqDiff, v2, v4, v5, v10, v11, v12] <;> rfl)) rfl rfl ?_
      refine o_nil ?_
      refine w_cond (t := false) (by simp only [ev, envOf, val_set, ofValue, ofCell, ↓reduceIte, Nat.reduceEqDiff, v2, v4, v5, v10, v11, v12] <;> rfl) (fun h => by cases h) (fun _ => ?_)
      refine w_skip ?_
      refine w_region ?_
      refine o_rd (r_loadN (cs := [.int .i64 (xk), .int .i64 (xn), xs]) Ty.agg24 Ty.csz24 (by simp only [ev, envOf, val_set, ofValue, ofCell, ↓reduceIte, Nat.reduceEqDiff, v2, v4, v5, v10, v11, v12] <;> rfl) (read_mt A12 (Nat.le_of_ble_eq_true rfl))) rfl rfl ?_
      refine o_st W12 (by simp only [ev, envOf, val_set, ofValue, ofCell, ↓reduceIte, Nat.reduceEqDiff, v2, v4, v5, v10, v11, v12] <;> rfl) (by simp only [ev, envOf, val_set, ofValue, ofCell, ↓reduceIte, Nat.reduceEqDiff, v2, v4, v5, v10, v11, v12] <;> rfl) A1 Ty.csz24 rfl (Nat.le_of_ble_eq_true rfl) (by first | rfl | exact ones3 (SA.one' hSj) | exact ones3 (SA.one' hxs) | exact hon.va.ones) rfl rfl ?_; intro H13 n13 W13 A13 K13
      have A13 : H13.at H0.n = some (.row [.int .i64 (xk), .int .i64 (xn), xs] 24 false none) := A13
      have E13 := Ext.put W0 E12 (by have := E12.n; omega) K13 n13 W13
      have A2 := K13.own A2 (by omega)
      have A12 := K13.own A12 (by omega)
      refine o_nil ?_
      refine w_region ?_
      refine o_rd (r_addE (a := ((i : Nat) : Int)) (b := 1) (c := ((i + 1 : Nat) : Int)) (by simp only [ev, envOf, val_set, ofValue, ofCell, ↓reduceIte, Nat.reduceEqDiff, v2, v4, v5, v10, v11, v12] <;> rfl) (by simp only [ev, envOf, val_set, ofValue, ofCell, ↓reduceIte, Nat.reduceEqDiff, v2, v4, v5, v10, v11, v12] <;> rfl) (by omega) (by omega) (by omega)) rfl rfl ?_
      refine o_rd (r_move (by simp only [ev, envOf, val_set, ofValue, ofCell, ↓reduceIte, Nat.reduceEqDiff, v2, v4, v5, v10, v11, v12] <;> rfl)) rfl rfl ?_
      refine o_nil ?_
      have hpd := hpj; rw [List.drop_eq_getElem_cons hi1] at hpd; simp only [partV, hst] at hpd; have hct := stepV_cnt hst
      exact ⟨m - 1, by omega, _, H13, i + 1, xk, xn, xl, xs, rfl, (by simp only [val_set, ↓reduceIte, Nat.reduceEqDiff, v2, v4, v5, v10, v11, v12] <;> rfl), (by simp only [val_set, ↓reduceIte, Nat.reduceEqDiff, v2, v4, v5, v10, v11, v12] <;> rfl), (by simp only [val_set, ↓reduceIte, Nat.reduceEqDiff, v2, v4, v5, v10, v11, v12] <;> rfl), (by simp only [val_set, ↓reduceIte, Nat.reduceEqDiff, v2, v4, v5, v10, v11, v12] <;> rfl), (by simp only [val_set, ↓reduceIte, Nat.reduceEqDiff, v2, v4, v5, v10, v11, v12] <;> rfl), (by simp only [val_set, ↓reduceIte, Nat.reduceEqDiff, v2, v4, v5, v10, v11, v12] <;> rfl), W13, E13, A13, A2, by omega, hxs, hpd, by omega⟩
  · have hc4 := dec_f hc4
    refine w_exit (blk_exit ?_)
    refine w_seq ?_
    refine w_region ?_
    refine o_rd (r_loadN (cs := [.int .i64 (kj), .int .i64 (nj), sj]) Ty.agg24 Ty.csz24 (by simp only [ev, envOf, val_set, ofValue, ofCell, ↓reduceIte, Nat.reduceEqDiff, v2, v4, v5, v10, v11, v12] <;> rfl) (read_mt A1 (Nat.le_of_ble_eq_true rfl))) rfl rfl ?_
    refine o_cl rfl rfl (by simp only [evs, ev, envOf, val_set, ofValue, ofCell, ↓reduceIte, Nat.reduceEqDiff, v2, v4, v5, v10, v11, v12] <;> rfl) rfl (own_fin2 ho (.mk kj nj lj) (by omega) W3 (VA.ext E3 (.mk _ _ _ _ hSj))) rfl rfl ?_; rintro _ H14 ⟨ck, cn, cs, rfl, hon, X14⟩
    have W14 := X14.wf; have E14 := E3.trans X14
    have A1 := X14.keep _ _ A1
    have A2 := X14.keep _ _ A2
    have n14 := X14.n
    refine o_st W14 (by simp only [ev, envOf, val_set, ofValue, ofCell, ↓reduceIte, Nat.reduceEqDiff, v2, v4, v5, v10, v11, v12] <;> rfl) (by simp only [ev, envOf, val_set, ofValue, ofCell, ↓reduceIte, Nat.reduceEqDiff, v2, v4, v5, v10, v11, v12] <;> rfl) A2 Ty.csz24 rfl (Nat.le_of_ble_eq_true rfl) (by first | rfl | exact ones3 (SA.one' hSj) | exact ones3 (SA.one' hxs) | exact hon.va.ones) rfl rfl ?_; intro H15 n15 W15 A15 K15
    have A15 : H15.at H1.n = some (.row [.int .i64 (ck), .int .i64 (cn), cs] 24 false none) := A15
    have E15 := Ext.put W0 E14 (by have := E14.n; omega) K15 n15 W15
    have A1 := K15.own A1 (by omega)
    refine o_rd (r_assign (by simp only [ev, envOf, val_set, ofValue, ofCell, ↓reduceIte, Nat.reduceEqDiff, v2, v4, v5, v10, v11, v12] <;> rfl)) rfl rfl ?_
    refine o_nil ?_
    have hr16 : H15.read (.mt H1.n) 0 3 = some [.int .i64 (ck), .int .i64 (cn), cs] := read_mt A15 (Nat.le_of_ble_eq_true rfl)
    refine w_ret ⟨.inr rfl, rfl, .tup [.agg [.int .i64 (ck), .int .i64 (cn), cs], .bool (true)], (show resultA Try.prog [.cell 4 24, .tmp 5] _ = _ by simp only [resultA, resultsA, envOf, val_set, ↓reduceIte, Nat.reduceEqDiff, Option.map_some, v2, v4, v5, v10, v11, v12, hr16, Ty.agg24, Ty.csz24] <;> rfl), ?_⟩
    try dsimp only
    have hq : partV (.mk ka na la) ps = some (.mk kj nj lj) := (by rw [← hpj, List.drop_of_length_le (by omega)]; rfl)
    refine .inr ⟨_, _, H3.n, hq, rfl, by have := E15.n; omega, ?_, E15⟩
    have := hon.same (H' := H15) (fun c x h1 h2 e => K15.own e (by omega)); rw [n15]; exact this
end Go.Proofs.Ytenfjdkeikjhlaa.Vs
