/-
  value.With: a value with the part at a path another one.
-/
import Derived.Test.YtenfjdkeikjhlaaPart
import Derived.Test.YtenfjdkeikjhlaaFootT
set_option autoImplicit false
set_option linter.unusedVariables false
set_option linter.unusedSimpArgs false
namespace Go.Proofs.Ytenfjdkeikjhlaa.Vs
open Go.VI Go.Proofs
variable {orc : CallF}
def putV : V → List Int → V → Option V
  | _, [], x => some x
  | .mk k n l, i :: p, x => match stepV (.mk k n l) i with
    | some y => (putV y p x).map fun y' => .mk k n (l.set i.toNat y')
    | none => none
theorem r_nilCheck {P : Program} {e : Env} {h : AH} {x : Operand} {l : VI.Loc} {o : Nat} (hx : ev e x = some (.ptr l o)) : readOp P e h (.nilCheck x) = some (.ptr l o) := by simp only [readOp, doNil, hx]
theorem part_no (ho : NoOrcBut [9, 35, 36] orc) {H0 : AH} (W0 : Wf H0) (ka na : Int) (la : List V) (sa sp : AV) (ps : List Int) (hS : SA H0 la sa) (hP : SI H0 ps sp) (hN : (V.mk ka na la).cnt ≤ 1000000) (h : partV (.mk ka na la) ps = none) :
    VI.Fin Try.prog orc 27 [.agg [.int .i64 ka, .int .i64 na, sa], sp] H0 (fun r H' => r = .tup [.agg [.int .i64 0, .int .i64 0, .nils], .bool false] ∧ Ext H0 H') :=
  (part_fin ho W0 ka na la sa sp ps hS hP hN).mono fun r H' hh => by
    rcases hh with ⟨_, h2, h3⟩ | ⟨x, cn, lo, h1, _⟩
    · exact ⟨h2, h3⟩
    · rw [h] at h1; cases h1
theorem part_yes (ho : NoOrcBut [9, 35, 36] orc) {H0 : AH} (W0 : Wf H0) (ka na : Int) (la : List V) (sa sp : AV) (ps : List Int) (hS : SA H0 la sa) (hP : SI H0 ps sp) (hN : (V.mk ka na la).cnt ≤ 1000000) {x : V} (h : partV (.mk ka na la) ps = some x) :
    VI.Fin Try.prog orc 27 [.agg [.int .i64 ka, .int .i64 na, sa], sp] H0 (fun r H' => ∃ ck cn cl cs, x = .mk ck cn cl ∧ SA H' cl cs ∧ r = .tup [.agg [.int .i64 ck, .int .i64 cn, cs], .bool true] ∧ Ext H0 H') :=
  (part_fin ho W0 ka na la sa sp ps hS hP hN).mono fun r H' hh => by
    rcases hh with ⟨h1, _⟩ | ⟨y, cn, lo, h1, h2, _, h4, h5⟩
    · rw [h] at h1; cases h1
    · rw [h] at h1; injection h1 with h1; subst h1
      obtain ⟨k, n, l, s, rfl, rfl, hs⟩ := h4.va.inv
      exact ⟨k, n, l, s, rfl, hs, h2, h5⟩
theorem own_fin3 (ho : NoOrcBut [9, 35, 36] orc) (kx nx : Int) (lx : List V) (hc : (V.mk kx nx lx).cnt ≤ 1000000) {H : AH} (W : Wf H) {a : List AV} (ha : VA H (.mk kx nx lx) a) : VI.Fin Try.prog orc 44 [.agg a] H (fun r H' => ∃ s, r = .agg [.int .i64 kx, .int .i64 nx, s] ∧ OS H' H.n H'.n lx s ∧ Ext H H') :=
  (own_fin ho _ hc H W a ha).mono fun r H' ⟨a', h1, h2, h3⟩ => by
    cases h2 with | mk _ _ k n l s h => exact ⟨s, h1, h, h3⟩
set_option maxRecDepth 100000 in
set_option maxHeartbeats 4000000 in
theorem with_fin (ho : NoOrcBut [9, 35, 36] orc) {H0 : AH} (W0 : Wf H0) (ka na kb nb : Int) (la lb : List V) (sa sb sp : AV) (ps : List Int) (hS : SA H0 la sa) (hB : SA H0 lb sb) (hP : SI H0 ps sp) (hN : (V.mk ka na la).cnt ≤ 1000000) (hM : (V.mk kb nb lb).cnt ≤ 1000000) : Fin Try.prog orc 28 [.agg [.int .i64 (ka), .int .i64 (na), sa], sp, .agg [.int .i64 (kb), .int .i64 (nb), sb]] H0 (fun r H' => (partV (.mk ka na la) ps = none ∧ r = .tup [.agg [.int .i64 0, .int .i64 0, .nils], .bool false] ∧ Ext H0 H') ∨ ∃ w a' bs, putV (.mk ka na la) ps (.mk kb nb lb) = some w ∧ r = .tup [.agg a', .bool true] ∧ bs.Nodup ∧ (∀ c ∈ bs, H0.n ≤ c ∧ c < H'.n) ∧ FT H' 0 bs w a' ∧ Ext H0 H') := by
  have E0 := Ext.refl W0
  have hpb := hP.bound
  refine fin_of Try.func28 rfl (by rw [Try.ntmps28]; simp) (ho _ rfl _ _) ?_
  rw [Try.ntmps28]
  refine w_seq ?_
  refine w_region ?_
  refine o_nw W0 (a_box (by simp only [ev, envOf, val_set, ofValue, ofCell, ↓reduceIte, Nat.reduceEqDiff] <;> rfl)) rfl rfl rfl (by simp) ?_; intro H1 n1 W1 X1 A1
  have A1 : H1.at H0.n = some (.row [.int .i64 (ka), .int .i64 (na), sa] 24 false none) := A1
  have E1 := E0.trans X1
  have g1 : H0.n ≤ H0.n := E0.n
  refine o_nw W1 (a_box (by simp only [ev, envOf, val_set, ofValue, ofCell, ↓reduceIte, Nat.reduceEqDiff] <;> rfl)) rfl rfl rfl (by simp) ?_; intro H2 n2 W2 X2 A2
  have A2 : H2.at H1.n = some (.row [.int .i64 (kb), .int .i64 (nb), sb] 24 false none) := A2
  have E2 := E1.trans X2
  have g2 : H0.n ≤ H1.n := E1.n
  have A1 := X2.keep _ _ A1
  refine o_nw W2 (a_alloc Ty.zero24) rfl rfl rfl (by simp) ?_; intro H3 n3 W3 X3 A3
  have A3 : H3.at H2.n = some (.row [.int .i64 (0), .int .i64 (0), .nils] 24 false none) := A3
  have E3 := E2.trans X3
  have g3 : H0.n ≤ H2.n := E2.n
  have A1 := X3.keep _ _ A1
  have A2 := X3.keep _ _ A2
  refine o_rd (r_assign (by simp only [ev, envOf, val_set, ofValue, ofCell, ↓reduceIte, Nat.reduceEqDiff] <;> rfl)) rfl rfl ?_
  refine o_nil ?_
  refine w_seq ?_
  refine w_seq ?_
  refine w_region ?_
  refine o_rd (r_loadN (cs := [.int .i64 (ka), .int .i64 (na), sa]) Ty.agg24 Ty.csz24 (by simp only [ev, envOf, val_set, ofValue, ofCell, ↓reduceIte, Nat.reduceEqDiff] <;> rfl) (read_mt A1 (Nat.le_of_ble_eq_true rfl))) rfl rfl ?_
  refine o_rd (r_move (by simp only [ev, envOf, val_set, ofValue, ofCell, ↓reduceIte, Nat.reduceEqDiff] <;> rfl)) rfl rfl ?_
  rcases hpv : partV (.mk ka na la) ps with _ | x
  · skip
    refine o_cl rfl rfl (by simp only [evs, ev, envOf, val_set, ofValue, ofCell, ↓reduceIte, Nat.reduceEqDiff] <;> rfl) rfl (part_no ho W3 ka na la sa sp ps (hS.ext E3) (hP.ext E3) (by omega) hpv) rfl rfl ?_; rintro _ H4 ⟨rfl, X4⟩
    have W4 := X4.wf; have E4 := E3.trans X4
    have A1 := X4.keep _ _ A1
    have A2 := X4.keep _ _ A2
    have A3 := X4.keep _ _ A3
    have n4 := X4.n
    refine o_rd (r_move (by simp only [ev, envOf, val_set, ofValue, ofCell, ↓reduceIte, Nat.reduceEqDiff] <;> rfl)) rfl rfl ?_
    refine o_rd (r_extract (by simp only [ev, envOf, val_set, ofValue, ofCell, ↓reduceIte, Nat.reduceEqDiff] <;> rfl) rfl) rfl rfl ?_
    refine o_rd (r_extract (by simp only [ev, envOf, val_set, ofValue, ofCell, ↓reduceIte, Nat.reduceEqDiff] <;> rfl) rfl) rfl rfl ?_
    refine o_nw W4 (a_alloc Ty.zero24) rfl rfl rfl (by simp) ?_; intro H5 n5 W5 X5 A5
    have A5 : H5.at H4.n = some (.row [.int .i64 (0), .int .i64 (0), .nils] 24 false none) := A5
    have E5 := E4.trans X5
    have g5 : H0.n ≤ H4.n := E4.n
    have A1 := X5.keep _ _ A1
    have A2 := X5.keep _ _ A2
    have A3 := X5.keep _ _ A3
    refine o_st W5 (by simp only [ev, envOf, val_set, ofValue, ofCell, ↓reduceIte, Nat.reduceEqDiff] <;> rfl) (by simp only [ev, envOf, val_set, ofValue, ofCell, ↓reduceIte, Nat.reduceEqDiff] <;> rfl) A5 Ty.csz24 rfl (Nat.le_of_ble_eq_true rfl) (by first | rfl | exact ones3 (SA.one' hcs) | exact ones3 (SA.one' hon.va) | exact ones3 (SA.one' hoq.va) | exact ones3 (SA.one' hws)) rfl rfl ?_; intro H6 n6 W6 A6 K6
    have A6 : H6.at H4.n = some (.row [.int .i64 (0), .int .i64 (0), .nils] 24 false none) := A6
    have E6 := Ext.put W0 E5 (by have := E5.n; omega) K6 n6 W6
    have A1 := K6.own A1 (by omega)
    have A2 := K6.own A2 (by omega)
    have A3 := K6.own A3 (by omega)
    refine o_rd (r_assign (by simp only [ev, envOf, val_set, ofValue, ofCell, ↓reduceIte, Nat.reduceEqDiff] <;> rfl)) rfl rfl ?_
    refine o_nil ?_
    refine w_seq ?_
    refine w_region ?_
    refine o_rd (r_move (by simp only [ev, envOf, val_set, ofValue, ofCell, ↓reduceIte, Nat.reduceEqDiff] <;> rfl)) rfl rfl ?_
    refine o_rd (r_not (by simp only [ev, envOf, val_set, ofValue, ofCell, ↓reduceIte, Nat.reduceEqDiff] <;> rfl)) rfl rfl ?_
    refine o_nil ?_
    refine w_cond (t := true) (by simp only [ev, envOf, val_set, ofValue, ofCell, ↓reduceIte, Nat.reduceEqDiff] <;> rfl) (fun _ => ?_) (fun h => by cases h)
    refine w_seq ?_
    refine w_region ?_
    refine o_rd (r_build (cs := [.int .i64 (0), .int .i64 (0), .nils]) Ty.zero24 Ty.pl24 (by simp only [evParts, ev, envOf, val_set, ofValue, ofCell, ↓reduceIte, Nat.reduceEqDiff] <;> rfl) rfl) rfl rfl ?_
    refine o_st W6 (by simp only [ev, envOf, val_set, ofValue, ofCell, ↓reduceIte, Nat.reduceEqDiff] <;> rfl) (by simp only [ev, envOf, val_set, ofValue, ofCell, ↓reduceIte, Nat.reduceEqDiff] <;> rfl) A3 Ty.csz24 rfl (Nat.le_of_ble_eq_true rfl) (by first | rfl | exact ones3 (SA.one' hcs) | exact ones3 (SA.one' hon.va) | exact ones3 (SA.one' hoq.va) | exact ones3 (SA.one' hws)) rfl rfl ?_; intro H7 n7 W7 A7 K7
    have A7 : H7.at H2.n = some (.row [.int .i64 (0), .int .i64 (0), .nils] 24 false none) := A7
    have E7 := Ext.put W0 E6 (by have := E6.n; omega) K7 n7 W7
    have A1 := K7.own A1 (by omega)
    have A2 := K7.own A2 (by omega)
    have A6 := K7.own A6 (by omega)
    refine o_rd (r_assign (by simp only [ev, envOf, val_set, ofValue, ofCell, ↓reduceIte, Nat.reduceEqDiff] <;> rfl)) rfl rfl ?_
    refine o_nil ?_
    have hr8 : H7.read (.mt H2.n) 0 3 = some [.int .i64 (0), .int .i64 (0), .nils] := read_mt A7 (Nat.le_of_ble_eq_true rfl)
    refine w_ret ⟨.inr rfl, rfl, .tup [.agg [.int .i64 (0), .int .i64 (0), .nils], .bool (false)], (show resultA Try.prog [.cell 6 24, .tmp 7] _ = _ by simp only [resultA, resultsA, envOf, val_set, ↓reduceIte, Nat.reduceEqDiff, Option.map_some, hr8, Ty.agg24, Ty.csz24] <;> rfl), ?_⟩
    try dsimp only
    exact .inl ⟨(by first | rfl | exact hpv), rfl, E7⟩
  · skip
    refine o_cl rfl rfl (by simp only [evs, ev, envOf, val_set, ofValue, ofCell, ↓reduceIte, Nat.reduceEqDiff] <;> rfl) rfl (part_yes ho W3 ka na la sa sp ps (hS.ext E3) (hP.ext E3) (by omega) hpv) rfl rfl ?_; rintro _ H9 ⟨ck, cn, cl, cs, rfl, hcs, rfl, X9⟩
    have W9 := X9.wf; have E9 := E3.trans X9
    have A1 := X9.keep _ _ A1
    have A2 := X9.keep _ _ A2
    have A3 := X9.keep _ _ A3
    have n9 := X9.n
    refine o_rd (r_move (by simp only [ev, envOf, val_set, ofValue, ofCell, ↓reduceIte, Nat.reduceEqDiff] <;> rfl)) rfl rfl ?_
    refine o_rd (r_extract (by simp only [ev, envOf, val_set, ofValue, ofCell, ↓reduceIte, Nat.reduceEqDiff] <;> rfl) rfl) rfl rfl ?_
    refine o_rd (r_extract (by simp only [ev, envOf, val_set, ofValue, ofCell, ↓reduceIte, Nat.reduceEqDiff] <;> rfl) rfl) rfl rfl ?_
    refine o_nw W9 (a_alloc Ty.zero24) rfl rfl rfl (by simp) ?_; intro H10 n10 W10 X10 A10
    have A10 : H10.at H9.n = some (.row [.int .i64 (0), .int .i64 (0), .nils] 24 false none) := A10
    have E10 := E9.trans X10
    have g10 : H0.n ≤ H9.n := E9.n
    have A1 := X10.keep _ _ A1
    have A2 := X10.keep _ _ A2
    have A3 := X10.keep _ _ A3
    refine o_st W10 (by simp only [ev, envOf, val_set, ofValue, ofCell, ↓reduceIte, Nat.reduceEqDiff] <;> rfl) (by simp only [ev, envOf, val_set, ofValue, ofCell, ↓reduceIte, Nat.reduceEqDiff] <;> rfl) A10 Ty.csz24 rfl (Nat.le_of_ble_eq_true rfl) (by first | rfl | exact ones3 (SA.one' hcs) | exact ones3 (SA.one' hon.va) | exact ones3 (SA.one' hoq.va) | exact ones3 (SA.one' hws)) rfl rfl ?_; intro H11 n11 W11 A11 K11
    have A11 : H11.at H9.n = some (.row [.int .i64 (ck), .int .i64 (cn), cs] 24 false none) := A11
    have E11 := Ext.put W0 E10 (by have := E10.n; omega) K11 n11 W11
    have A1 := K11.own A1 (by omega)
    have A2 := K11.own A2 (by omega)
    have A3 := K11.own A3 (by omega)
    refine o_rd (r_assign (by simp only [ev, envOf, val_set, ofValue, ofCell, ↓reduceIte, Nat.reduceEqDiff] <;> rfl)) rfl rfl ?_
    refine o_nil ?_
    refine w_seq ?_
    refine w_region ?_
    refine o_rd (r_move (by simp only [ev, envOf, val_set, ofValue, ofCell, ↓reduceIte, Nat.reduceEqDiff] <;> rfl)) rfl rfl ?_
    refine o_rd (r_not (by simp only [ev, envOf, val_set, ofValue, ofCell, ↓reduceIte, Nat.reduceEqDiff] <;> rfl)) rfl rfl ?_
    refine o_nil ?_
    refine w_cond (t := false) (by simp only [ev, envOf, val_set, ofValue, ofCell, ↓reduceIte, Nat.reduceEqDiff] <;> rfl) (fun h => by cases h) (fun _ => ?_)
    refine w_skip ?_
    refine w_seq ?_
    refine w_region ?_
    refine o_rd (r_loadN (cs := [.int .i64 (ka), .int .i64 (na), sa]) Ty.agg24 Ty.csz24 (by simp only [ev, envOf, val_set, ofValue, ofCell, ↓reduceIte, Nat.reduceEqDiff] <;> rfl) (read_mt A1 (Nat.le_of_ble_eq_true rfl))) rfl rfl ?_
    refine o_cl rfl rfl (by simp only [evs, ev, envOf, val_set, ofValue, ofCell, ↓reduceIte, Nat.reduceEqDiff] <;> rfl) rfl (own_fin3 ho ka na la (by omega) W11 (VA.ext E11 (.mk _ _ _ _ hS))) rfl rfl ?_; rintro _ H12 ⟨so, rfl, hon, X12⟩
    have W12 := X12.wf; have E12 := E11.trans X12
    have A1 := X12.keep _ _ A1
    have A2 := X12.keep _ _ A2
    have A3 := X12.keep _ _ A3
    have A11 := X12.keep _ _ A11
    have n12 := X12.n
    refine o_nw W12 (a_alloc Ty.zero24) rfl rfl rfl (by simp) ?_; intro H13 n13 W13 X13 A13
    have A13 : H13.at H12.n = some (.row [.int .i64 (0), .int .i64 (0), .nils] 24 false none) := A13
    have E13 := E12.trans X13
    have g13 : H0.n ≤ H12.n := E12.n
    have A1 := X13.keep _ _ A1
    have A2 := X13.keep _ _ A2
    have A3 := X13.keep _ _ A3
    have A11 := X13.keep _ _ A11
    refine o_st W13 (by simp only [ev, envOf, val_set, ofValue, ofCell, ↓reduceIte, Nat.reduceEqDiff] <;> rfl) (by simp only [ev, envOf, val_set, ofValue, ofCell, ↓reduceIte, Nat.reduceEqDiff] <;> rfl) A13 Ty.csz24 rfl (Nat.le_of_ble_eq_true rfl) (by first | rfl | exact ones3 (SA.one' hcs) | exact ones3 (SA.one' hon.va) | exact ones3 (SA.one' hoq.va) | exact ones3 (SA.one' hws)) rfl rfl ?_; intro H14 n14 W14 A14 K14
    have A14 : H14.at H12.n = some (.row [.int .i64 (ka), .int .i64 (na), so] 24 false none) := A14
    have E14 := Ext.put W0 E13 (by have := E13.n; omega) K14 n14 W14
    have A1 := K14.own A1 (by omega)
    have A2 := K14.own A2 (by omega)
    have A3 := K14.own A3 (by omega)
    have A11 := K14.own A11 (by omega)
    refine o_nil ?_
    refine w_seq ?_
    refine w_region ?_
    refine o_rd (r_assign (by simp only [ev, envOf, val_set, ofValue, ofCell, ↓reduceIte, Nat.reduceEqDiff] <;> rfl)) rfl rfl ?_
    refine o_nil ?_
    refine w_seq ?_
    refine w_seq ?_
    refine w_region ?_
    refine o_rd (r_move (by simp only [ev, envOf, val_set, ofValue, ofCell, ↓reduceIte, Nat.reduceEqDiff] <;> rfl)) rfl rfl ?_
    refine o_rd (r_len (n := ps.length) Try.underlying28 (by simp only [ev, envOf, val_set, ofValue, ofCell, ↓reduceIte, Nat.reduceEqDiff] <;> rfl) hP.lenOf) rfl rfl ?_
    refine o_rd (r_move (by simp only [ev, envOf, val_set, ofValue, ofCell, ↓reduceIte, Nat.reduceEqDiff] <;> rfl)) rfl rfl ?_
    refine o_nil ?_
    refine w_block ?_
    have hOS := ((hon.ext X13).same (H' := H14) (fun c x h1 h2 e => K14.own e (by omega)))
    refine w_loop (fun m s => ∃ (e : Env) (H : AH) (i : Nat) (bj : Nat) (oj : Nat) (lo : Nat) (hi : Nat) (cj : List AV) (plug : V → V) (kj : Int) (nj : Int) (lj : List V) (sj : AV), s = ⟨e, H, []⟩ ∧ e.val 5 = .ptr (.mt (H1.n)) (0) ∧ e.val 6 = .ptr (.mt (H2.n)) (0) ∧ e.val 7 = .bool (false) ∧ e.val 10 = .ptr (.mt (H12.n)) (0) ∧ e.val 11 = .ptr (.mt (bj)) (oj) ∧ e.val 25 = sp ∧ e.val 26 = .int .i64 (((ps.length : Nat) : Int)) ∧ e.val 27 = .int .i64 (((i : Nat) : Int)) ∧ Wf H ∧ Ext H0 H ∧ H.at (H0.n) = some (.row [.int .i64 (ka), .int .i64 (na), sa] 24 false none) ∧ H.at (H1.n) = some (.row [.int .i64 (kb), .int .i64 (nb), sb] 24 false none) ∧ H.at (H2.n) = some (.row [.int .i64 (0), .int .i64 (0), .nils] 24 false none) ∧ H.at (H9.n) = some (.row [.int .i64 (ck), .int .i64 (cn), cs] 24 false none) ∧ H.at (H12.n) = some (.row [.int .i64 (ka), .int .i64 (na), so] 24 false none) ∧ (i + m = ps.length) ∧ (H.at bj = some (.row cj 24 false none)) ∧ (oj + 3 ≤ cj.length) ∧ ((cj.drop oj).take 3 = [.int .i64 kj, .int .i64 nj, sj]) ∧ (OS H lo hi lj sj) ∧ (¬ (lo ≤ bj ∧ bj < hi)) ∧ (H2.n < lo ∧ H2.n < bj) ∧ (CtxF H (H2.n + 1) H12.n (H12.n) bj oj lo hi plug) ∧ (V.cnts lj ≤ 1000000) ∧ (hi ≤ H12.n) ∧ (partV (.mk kj nj lj) (ps.drop i) = partV (.mk ka na la) ps) ∧ (∀ x w, putV (.mk kj nj lj) (ps.drop i) x = some w → putV (.mk ka na la) ps x = some (plug w))) (ps.length) ⟨_, H14, 0, H12.n, 0, H11.n, H12.n, _, id, ka, na, la, so, rfl, (by simp only [val_set, ↓reduceIte, Nat.reduceEqDiff] <;> rfl), (by simp only [val_set, ↓reduceIte, Nat.reduceEqDiff] <;> rfl), (by simp only [val_set, ↓reduceIte, Nat.reduceEqDiff] <;> rfl), (by simp only [val_set, ↓reduceIte, Nat.reduceEqDiff] <;> rfl), (by simp only [val_set, ↓reduceIte, Nat.reduceEqDiff] <;> rfl), (by simp only [val_set, ↓reduceIte, Nat.reduceEqDiff] <;> rfl), (by simp only [val_set, ↓reduceIte, Nat.reduceEqDiff] <;> rfl), (by simp only [val_set, ↓reduceIte, Nat.reduceEqDiff] <;> rfl), W14, E14, A1, A2, A3, A11, A14, by omega, A14, (Nat.le_of_ble_eq_true rfl), rfl, hOS, by omega, by omega, ctxF_init A14, (by simp only [V.cnt] at hN; omega), (Nat.le_refl _), rfl, (fun x w h => h)⟩ ?_
    intro m s hi
    obtain ⟨e, H15, i, bj, oj, lo, hi, cj, plug, kj, nj, lj, sj, rfl, v5, v6, v7, v10, v11, v25, v26, v27, W15, E15, A1, A2, A3, A11, A14, hm, hbj, hlj, hwj, hOj, hbo, hlo, hC, hcj, hhB, hpj, hput⟩ := hi
    have l15_0 := W15.lt A1
    have l15_1 := W15.lt A2
    have l15_2 := W15.lt A3
    have l15_3 := W15.lt A11
    have l15_4 := W15.lt A14
    refine w_seq ?_
    refine w_region ?_
    refine o_rd (r_lt (a := ((i : Nat) : Int)) (b := ((ps.length : Nat) : Int)) (by simp only [ev, envOf, val_set, ofValue, ofCell, ↓reduceIte, Nat.reduceEqDiff, v5, v6, v7, v10, v11, v25, v26, v27] <;> rfl) (by simp only [ev, envOf, val_set, ofValue, ofCell, ↓reduceIte, Nat.reduceEqDiff, v5, v6, v7, v10, v11, v25, v26, v27] <;> rfl)) rfl rfl ?_
    refine o_nil ?_
    refine w_seq ?_
    refine w_cond (by simp only [ev, envOf, val_set, ofValue, ofCell, ↓reduceIte, Nat.reduceEqDiff, v5, v6, v7, v10, v11, v25, v26, v27] <;> rfl) (fun hc16 => ?_) (fun hc16 => ?_)
    · have hc16 := dec_t hc16
      refine w_skip ?_
      refine w_seq ?_
      refine w_block ?_
      refine w_seq ?_
      refine w_region ?_
      have hi1 : i < ps.length := by omega
      obtain ⟨loc2, off2, cap2, rfl, hr2⟩ := hP.get hi1
      refine o_rd (r_indexAddr Try.underlying28 Ty.csz3 (by simp only [ev, envOf, val_set, ofValue, ofCell, ↓reduceIte, Nat.reduceEqDiff, v5, v6, v7, v10, v11, v25, v26, v27] <;> rfl) (by simp only [ev, envOf, val_set, ofValue, ofCell, ↓reduceIte, Nat.reduceEqDiff, v5, v6, v7, v10, v11, v25, v26, v27] <;> rfl) hi1) rfl rfl ?_
      refine o_rd (r_load1 Ty.agg3 (by simp only [ev, envOf, val_set, ofValue, ofCell, ↓reduceIte, Nat.reduceEqDiff, v5, v6, v7, v10, v11, v25, v26, v27] <;> rfl) (E15.read hr2)) rfl rfl ?_
      refine o_rd (r_assign (by simp only [ev, envOf, val_set, ofValue, ofCell, ↓reduceIte, Nat.reduceEqDiff, v5, v6, v7, v10, v11, v25, v26, v27] <;> rfl)) rfl rfl ?_
      refine o_nil ?_
      refine w_region ?_
      refine o_rd (r_move (by simp only [ev, envOf, val_set, ofValue, ofCell, ↓reduceIte, Nat.reduceEqDiff, v5, v6, v7, v10, v11, v25, v26, v27] <;> rfl)) rfl rfl ?_
      have hpd := hpj
      rw [List.drop_eq_getElem_cons hi1] at hpd; simp only [partV] at hpd
      rcases hst : stepV (.mk kj nj lj) ps[i] with _ | y
      · rw [hst] at hpd; exact absurd hpd.symm (by rw [hpv]; simp)
      rw [hst] at hpd
      have hst2 := hst
      simp only [stepV] at hst2
      by_cases hcj : (kj = 3 ∨ kj = 4) ∧ 0 ≤ ps[i] ∧ ps[i] < (lj.length : Int)
      case neg => rw [if_neg hcj] at hst2; cases hst2
      rw [if_pos hcj] at hst2
      obtain ⟨j, hjx⟩ := Int.eq_ofNat_of_zero_le (show 0 ≤ ps[i] by omega)
      have hj : j < lj.length := by omega
      rw [hjx, Int.toNat_natCast, List.getElem?_eq_getElem hj] at hst2
      injection hst2 with hst2
      obtain ⟨bn, csn, m1, m2, kc, nc, lc, sc, rfl, hbn2, hln2, hwn2, hlx, hon2, hbm2, hb1, hb2, hhB2, hCn⟩ := hC.step (by omega) hhB (by omega) (by omega) hbj hwj hOj hbo hj
      have hcm := V.cnt_mem (List.getElem_mem hj); rw [hlx] at hcm; simp only [V.cnt] at hcm
      rw [hlx] at hst2; subst hst2
      have hr9 : H15.read (.mt bj) (oj + 2) 1 = some [.sl (.mt bn) 0 lj.length lj.length] := by
        have h3 := read_mt (n := 3) hbj hlj
        rw [hwj] at h3
        have := read_part (o := 2) (m := 1) h3 (by omega)
        exact this
      refine o_rd (r_nilCheck (by simp only [ev, envOf, val_set, ofValue, ofCell, ↓reduceIte, Nat.reduceEqDiff, v5, v6, v7, v10, v11, v25, v26, v27] <;> rfl)) rfl rfl ?_
      refine o_rd (r_fieldAddr Ty.fo24_2 (by simp only [ev, envOf, val_set, ofValue, ofCell, ↓reduceIte, Nat.reduceEqDiff, v5, v6, v7, v10, v11, v25, v26, v27] <;> rfl)) rfl rfl ?_
      refine o_rd (r_load1 Ty.agg22 (by simp only [ev, envOf, val_set, ofValue, ofCell, ↓reduceIte, Nat.reduceEqDiff, v5, v6, v7, v10, v11, v25, v26, v27] <;> rfl) hr9) rfl rfl ?_
      refine o_rd (r_move (v := .int .i64 (j : Int)) (by rw [← hjx]; simp only [ev, envOf, val_set, ofValue, ofCell, ↓reduceIte, Nat.reduceEqDiff] <;> rfl)) rfl rfl ?_
      refine o_rd (r_indexAddr Try.underlying22 Ty.csz24 (by simp only [ev, envOf, val_set, ofValue, ofCell, ↓reduceIte, Nat.reduceEqDiff, v5, v6, v7, v10, v11, v25, v26, v27] <;> rfl) (by simp only [ev, envOf, val_set, ofValue, ofCell, ↓reduceIte, Nat.reduceEqDiff, v5, v6, v7, v10, v11, v25, v26, v27] <;> rfl) hj) rfl rfl ?_
      refine o_rd (r_assign (by simp only [ev, envOf, val_set, ofValue, ofCell, ↓reduceIte, Nat.reduceEqDiff, v5, v6, v7, v10, v11, v25, v26, v27] <;> rfl)) rfl rfl ?_
      refine o_nil ?_
      refine w_region ?_
      refine o_rd (r_addE (a := ((i : Nat) : Int)) (b := 1) (c := ((i + 1 : Nat) : Int)) (by simp only [ev, envOf, val_set, ofValue, ofCell, ↓reduceIte, Nat.reduceEqDiff, v5, v6, v7, v10, v11, v25, v26, v27] <;> rfl) (by simp only [ev, envOf, val_set, ofValue, ofCell, ↓reduceIte, Nat.reduceEqDiff, v5, v6, v7, v10, v11, v25, v26, v27] <;> rfl) (by omega) (by omega) (by omega)) rfl rfl ?_
      refine o_rd (r_move (by simp only [ev, envOf, val_set, ofValue, ofCell, ↓reduceIte, Nat.reduceEqDiff, v5, v6, v7, v10, v11, v25, v26, v27] <;> rfl)) rfl rfl ?_
      refine o_nil ?_
      exact ⟨m - 1, by omega, _, H15, i + 1, bn, j * 3, m1, m2, csn, _, kc, nc, lc, sc, rfl, (by simp only [val_set, ↓reduceIte, Nat.reduceEqDiff, v5, v6, v7, v10, v11, v25, v26, v27] <;> rfl), (by simp only [val_set, ↓reduceIte, Nat.reduceEqDiff, v5, v6, v7, v10, v11, v25, v26, v27] <;> rfl), (by simp only [val_set, ↓reduceIte, Nat.reduceEqDiff, v5, v6, v7, v10, v11, v25, v26, v27] <;> rfl), (by simp only [val_set, ↓reduceIte, Nat.reduceEqDiff, v5, v6, v7, v10, v11, v25, v26, v27] <;> rfl), (by simp only [val_set, ↓reduceIte, Nat.reduceEqDiff]; rw [Nat.zero_add]), (by simp only [val_set, ↓reduceIte, Nat.reduceEqDiff, v5, v6, v7, v10, v11, v25, v26, v27] <;> rfl), (by simp only [val_set, ↓reduceIte, Nat.reduceEqDiff, v5, v6, v7, v10, v11, v25, v26, v27] <;> rfl), (by simp only [val_set, ↓reduceIte, Nat.reduceEqDiff, v5, v6, v7, v10, v11, v25, v26, v27] <;> rfl), W15, E15, A1, A2, A3, A11, A14, by omega, hbn2, hln2, hwn2, hon2, hbm2, by have := hon2.le; omega, hCn, (by omega), (by omega), hpd, (fun x w h => hput x _ (by rw [List.drop_eq_getElem_cons hi1]; simp only [putV, hst, h, Option.map_some]; rw [hjx, Int.toNat_natCast]))⟩
    · have hc16 := dec_f hc16
      first | refine w_exit (blk_exit ?_) | refine w_exit (show (0 = 0 → _) ∧ (0 ≠ 0 → _) from ⟨fun _ => ?_, fun c => absurd rfl c⟩)
      refine w_seq ?_
      refine w_region ?_
      refine o_rd (r_move (by simp only [ev, envOf, val_set, ofValue, ofCell, ↓reduceIte, Nat.reduceEqDiff, v5, v6, v7, v10, v11, v25, v26, v27] <;> rfl)) rfl rfl ?_
      refine o_rd (r_loadN (cs := [.int .i64 (kb), .int .i64 (nb), sb]) Ty.agg24 Ty.csz24 (by simp only [ev, envOf, val_set, ofValue, ofCell, ↓reduceIte, Nat.reduceEqDiff, v5, v6, v7, v10, v11, v25, v26, v27] <;> rfl) (read_mt A2 (Nat.le_of_ble_eq_true rfl))) rfl rfl ?_
      have WH := W15
      refine o_cl rfl rfl (by simp only [evs, ev, envOf, val_set, ofValue, ofCell, ↓reduceIte, Nat.reduceEqDiff, v5, v6, v7, v10, v11, v25, v26, v27] <;> rfl) rfl (own_fin3 ho kb nb lb (by omega) W15 (VA.ext E15 (.mk _ _ _ _ hB))) rfl rfl ?_; rintro _ H17 ⟨sq, rfl, hoq, X17⟩
      have W17 := X17.wf; have E17 := E15.trans X17
      have A1 := X17.keep _ _ A1
      have A2 := X17.keep _ _ A2
      have A3 := X17.keep _ _ A3
      have A11 := X17.keep _ _ A11
      have A14 := X17.keep _ _ A14
      have n17 := X17.n
      refine o_rd (r_nilCheck (by simp only [ev, envOf, val_set, ofValue, ofCell, ↓reduceIte, Nat.reduceEqDiff, v5, v6, v7, v10, v11, v25, v26, v27] <;> rfl)) rfl rfl ?_
      have hbj2 := X17.keep _ _ hbj
      have hC2 := hC.ext X17 hbj
      refine o_st W17 (by simp only [ev, envOf, val_set, ofValue, ofCell, ↓reduceIte, Nat.reduceEqDiff, v5, v6, v7, v10, v11, v25, v26, v27] <;> rfl) (by simp only [ev, envOf, val_set, ofValue, ofCell, ↓reduceIte, Nat.reduceEqDiff, v5, v6, v7, v10, v11, v25, v26, v27] <;> rfl) hbj2 Ty.csz24 rfl hlj (by exact ones3 (SA.one' hoq.va)) rfl rfl ?_; intro H18 n18 W18 A18 K18
      have E18 := Ext.put W0 E17 (by have := E17.n; omega) K18 n18 W18
      have hoq2 := hoq.same (H' := H18) (fun c x h1 h2 e => K18.own e (by have := W17.lt hbj2; have := WH.lt hbj; omega))
      obtain ⟨bq, hq1, hq2, hq3⟩ := hoq2.fs (by simp only [V.cnt] at hM; omega)
      obtain ⟨wk, wn, ws, bw, Arb, hvw, -, -⟩ := hC2 H18 _ (.mk kb nb lb) bq (fun c x k0 e k1 k2 => K18.own e k2) (fun cells el e => by rw [hbj2] at e; injection e with e; injection e with e1 e2; subst e1; subst e2; exact A18) (.mk _ _ _ _ _ hq3) hq1 (fun c hc => by have := hq2 c hc; omega)
      replace hvw := hvw.va
      obtain ⟨wl, hwq, hws⟩ : ∃ wl, plug (.mk kb nb lb) = .mk wk wn wl ∧ SA H18 wl ws := by cases hvq : plug (.mk kb nb lb) with | mk a b c => rw [hvq] at hvw; cases hvw with | mk _ _ _ _ h => exact ⟨c, rfl, h⟩
      have A2r := K18.own A3 (by omega)
      refine o_nil ?_
      refine w_seq ?_
      refine w_region ?_
      refine o_rd (r_loadN (cs := [.int .i64 (wk), .int .i64 (wn), ws]) Ty.agg24 Ty.csz24 (by simp only [ev, envOf, val_set, ofValue, ofCell, ↓reduceIte, Nat.reduceEqDiff, v5, v6, v7, v10, v11, v25, v26, v27] <;> rfl) (read_mt Arb (Nat.le_of_ble_eq_true rfl))) rfl rfl ?_
      refine o_st W18 (by simp only [ev, envOf, val_set, ofValue, ofCell, ↓reduceIte, Nat.reduceEqDiff, v5, v6, v7, v10, v11, v25, v26, v27] <;> rfl) (by simp only [ev, envOf, val_set, ofValue, ofCell, ↓reduceIte, Nat.reduceEqDiff, v5, v6, v7, v10, v11, v25, v26, v27] <;> rfl) A2r Ty.csz24 rfl (Nat.le_of_ble_eq_true rfl) (by first | rfl | exact ones3 (SA.one' hcs) | exact ones3 (SA.one' hon.va) | exact ones3 (SA.one' hoq.va) | exact ones3 (SA.one' hws)) rfl rfl ?_; intro H19 n19 W19 A19 K19
      have A19 : H19.at H2.n = some (.row [.int .i64 (wk), .int .i64 (wn), ws] 24 false none) := A19
      have E19 := Ext.put W0 E18 (by have := E18.n; omega) K19 n19 W19
      have Arb := K19.own Arb (by omega)
      refine o_rd (r_assign (by simp only [ev, envOf, val_set, ofValue, ofCell, ↓reduceIte, Nat.reduceEqDiff, v5, v6, v7, v10, v11, v25, v26, v27] <;> rfl)) rfl rfl ?_
      refine o_nil ?_
      have hr20 : H19.read (.mt H2.n) 0 3 = some [.int .i64 (wk), .int .i64 (wn), ws] := read_mt A19 (Nat.le_of_ble_eq_true rfl)
      refine w_ret ⟨.inr rfl, rfl, .tup [.agg [.int .i64 (wk), .int .i64 (wn), ws], .bool (true)], (show resultA Try.prog [.cell 6 24, .tmp 7] _ = _ by simp only [resultA, resultsA, envOf, val_set, ↓reduceIte, Nat.reduceEqDiff, Option.map_some, v5, v6, v7, v10, v11, v25, v26, v27, hr20, Ty.agg24, Ty.csz24] <;> rfl), ?_⟩
      try dsimp only
      have hoq3 := hoq2.same (H' := H19) (fun c x h1 h2 e => K19.own e (by omega))
      obtain ⟨bq3, hq13, hq23, hq33⟩ := hoq3.fs (by simp only [V.cnt] at hM; omega)
      obtain ⟨w1, w2, w3, bw3, Arb2, hvw2, hnd, hin⟩ := hC2 H19 _ (.mk kb nb lb) bq3 (fun c x k0 e k1 k2 => K19.own (K18.own e k2) (by omega)) (fun cells el e => by rw [hbj2] at e; injection e with e; injection e with e1 e2; subst e1; subst e2; exact K19.own A18 (by omega)) (.mk _ _ _ _ _ hq33) hq13 (fun c hc => by have := hq23 c hc; omega)
      have hrbe := Arb
      rw [Arb2] at hrbe; injection hrbe with hrbe; injection hrbe with hrbe; injection hrbe with q1 q2; injection q2 with q2 q3; injection q3 with q3 q4
      rw [q1, q2, q3] at hvw2
      exact .inr ⟨_, _, _, hput _ _ (by rw [List.drop_of_length_le (by omega)]; rfl), rfl, hnd, (fun c hc => by have h1 := (hin c hc).1; rcases (hin c hc).2 with h | h <;> first | (have h2 := hq23 c h; omega) | omega), hvw2, E19⟩
end Go.Proofs.Ytenfjdkeikjhlaa.Vs
