/-
  Part and With of the reference.
-/
import Derived.Test.YtenfjdkeikjhlaaOwnR
import Derived.Test.YtenfjdkeikjhlaaGoes
import Derived.Test.YtenfjdkeikjhlaaWthF
set_option autoImplicit false
set_option linter.unusedVariables false
set_option linter.unusedSimpArgs false
namespace Go.VI
/-- a list of numbers of which parts may be taken -/
def SIc (H : AH) (l : List Int) (s : AV) : Prop := SI H l s ∧ ∀ loc off n c, s = .sl loc off n c → cutOk H 3 loc = true
theorem SIc.tail {H : AH} {p : Int} {ps : List Int} {loc : Loc} {off n c : Nat} (h : SIc H (p :: ps) (.sl loc off n c)) : SIc H ps (.sl loc (off + 1 * (0 + 1)) (n - 1) (c - 1)) := by
  obtain ⟨h1, h2⟩ := h
  cases h1 with
  | sl _ _ _ _ hr hc hb =>
    refine ⟨?_, fun _ _ _ _ e => by injection e with e; subst e; exact h2 _ _ _ _ rfl⟩
    simp only [List.length_cons] at hr hc hb ⊢
    have h3 := read_part hr (o := 1) (m := ps.length) (by omega)
    refine SI.sl ps loc _ _ ?_ (by omega) (by omega)
    rw [show off + 1 * (0 + 1) = off + 1 by omega, h3]
    simp only [List.map_cons, List.drop_succ_cons, List.drop_zero]
    rw [List.take_of_length_le (by simp)]
theorem cutOk_ext {H H' : AH} (E : Ext H H') {el : TypeId} {l : Loc} (h : cutOk H el l = true) : cutOk H' el l = true := by
  cases l with
  | im _ => rfl
  | mt b =>
    simp only [cutOk] at h ⊢
    cases hb : H.at b with
    | none => rw [hb] at h; cases h
    | some x => rw [E.keep _ _ hb]; rw [hb] at h; exact h
theorem SIc.ext {H H' : AH} (E : Ext H H') {l : List Int} {s : AV} (h : SIc H l s) : SIc H' l s := ⟨h.1.ext E, fun _ _ _ _ e => cutOk_ext E (h.2 _ _ _ _ e)⟩
end Go.VI
namespace Go.Proofs.Ytenfjdkeikjhlaa.Vs
open Go.VI Go.Proofs
variable {orc : CallF}
theorem FS.put {n c0 : Nat} {H H' : AH} {v : V} {a : List AV} (h : FS n H v a) (K : Keeps H H' c0 none) (hc : c0 < n) : FS n H' v a := fun H2 k => h H2 fun c x h1 h2 h3 h4 h5 => k c x h1 h2 (K.own h3 (by omega)) h4 h5
theorem FS.one {n : Nat} {H : AH} {k i : Int} {l : List V} {s : AV} (h : FS n H (.mk k i l) [.int .i64 k, .int .i64 i, s]) : s.one = true := by
  have hv := FS.va h
  cases hv with | mk _ _ _ _ h => exact SA.one' h
theorem FS.zero {n : Nat} {H : AH} : FS n H (.mk 0 0 []) [.int .i64 0, .int .i64 0, .nils] := fun _ _ => .mk _ _ _ _ .nil
def pz (o : Option V) : V := o.getD (.mk 0 0 [])
theorem goes_step {ka na ix : Int} {la : List V} (h : goesB ka la.length ix = false) : stepV (.mk ka na la) ix = none := by
  unfold goesB at h; have := of_decide_eq_false h
  simp only [stepV]; rw [if_neg this]
theorem goes_yes {ka na ix : Int} {la : List V} (h : goesB ka la.length ix = true) : ∃ j : Nat, ix = (j : Int) ∧ ∃ hj : j < la.length, stepV (.mk ka na la) (j : Int) = some la[j] := by
  unfold goesB at h; have := of_decide_eq_true h
  obtain ⟨j, rfl⟩ := Int.eq_ofNat_of_zero_le this.2.1
  have hj : j < la.length := by omega
  exact ⟨j, rfl, hj, by simp only [stepV]; rw [if_pos ⟨this.1, by omega, by omega⟩, Int.toNat_natCast, List.getElem?_eq_getElem hj]⟩
set_option maxRecDepth 100000 in
set_option maxHeartbeats 4000000 in
theorem partR_step (ho : NoOrcBut [9, 35, 36] orc) {H0 : AH} (W0 : Wf H0) (ka na : Int) (la : List V) (sa sp : AV) (ps : List Int) (hS : SA H0 la sa) (hP : SIc H0 ps sp) (hN : (V.mk ka na la).cnt ≤ 1000000) (ih : ∀ q : List Int, q.length < ps.length → ∀ (H : AH), Wf H → ∀ (ka na : Int) (la : List V) (sa sq : AV), SA H la sa → SIc H q sq → (V.mk ka na la).cnt ≤ 1000000 → Fin Try.prog orc 29 [.agg [.int .i64 ka, .int .i64 na, sa], sq] H (fun r H' => ∃ k n l s, r = .tup [.agg [.int .i64 k, .int .i64 n, s], .bool (partV (.mk ka na la) q).isSome] ∧ pz (partV (.mk ka na la) q) = .mk k n l ∧ FS H.n H' (.mk k n l) [.int .i64 k, .int .i64 n, s] ∧ Ext H H')) : Fin Try.prog orc 29 [.agg [.int .i64 (ka), .int .i64 (na), sa], sp] H0 (fun r H' => ∃ k n l s, r = .tup [.agg [.int .i64 k, .int .i64 n, s], .bool (partV (.mk ka na la) ps).isSome] ∧ pz (partV (.mk ka na la) ps) = .mk k n l ∧ FS H0.n H' (.mk k n l) [.int .i64 k, .int .i64 n, s] ∧ Ext H0 H') := by
  have E0 := Ext.refl W0
  refine fin_of Try.func29 rfl (by rw [Try.ntmps29]; simp) (ho _ rfl _ _) ?_
  rw [Try.ntmps29]
  refine w_seq ?_
  refine w_region ?_
  refine o_nw W0 (a_box (by simp only [ev, envOf, val_set, ofValue, ofCell, ↓reduceIte, Nat.reduceEqDiff] <;> rfl)) rfl rfl rfl (by simp) ?_; intro H1 n1 W1 X1 A1
  have A1 : H1.at H0.n = some (.row [.int .i64 (ka), .int .i64 (na), sa] 24 false none) := A1
  have E1 := E0.trans X1
  have g1 : H0.n ≤ H0.n := E0.n
  refine o_nw W1 (a_alloc Ty.zero24) rfl rfl rfl (by simp) ?_; intro H2 n2 W2 X2 A2
  have A2 : H2.at H1.n = some (.row [.int .i64 (0), .int .i64 (0), .nils] 24 false none) := A2
  have E2 := E1.trans X2
  have g2 : H0.n ≤ H1.n := E1.n
  have A1 := X2.keep _ _ A1
  refine o_rd (r_assign (by simp only [ev, envOf, val_set, ofValue, ofCell, ↓reduceIte, Nat.reduceEqDiff] <;> rfl)) rfl rfl ?_
  refine o_nil ?_
  refine w_seq ?_
  refine w_seq ?_
  refine w_region ?_
  refine o_rd (r_move (by simp only [ev, envOf, val_set, ofValue, ofCell, ↓reduceIte, Nat.reduceEqDiff] <;> rfl)) rfl rfl ?_
  refine o_rd (r_len (n := ps.length) Try.underlying28 (by simp only [ev, envOf, val_set, ofValue, ofCell, ↓reduceIte, Nat.reduceEqDiff] <;> rfl) hP.1.lenOf) rfl rfl ?_
  refine o_rd (r_eq (a := ((ps.length : Nat) : Int)) (b := 0) (by simp only [ev, envOf, val_set, ofValue, ofCell, ↓reduceIte, Nat.reduceEqDiff] <;> rfl) (by simp only [ev, envOf, val_set, ofValue, ofCell, ↓reduceIte, Nat.reduceEqDiff] <;> rfl)) rfl rfl ?_
  refine o_nil ?_
  refine w_cond (by simp only [ev, envOf, val_set, ofValue, ofCell, ↓reduceIte, Nat.reduceEqDiff] <;> rfl) (fun hc3 => ?_) (fun hc3 => ?_)
  · have hc3 := dec_t hc3
    refine w_seq ?_
    refine w_region ?_
    refine o_rd (r_loadN (cs := [.int .i64 (ka), .int .i64 (na), sa]) Ty.agg24 Ty.csz24 (by simp only [ev, envOf, val_set, ofValue, ofCell, ↓reduceIte, Nat.reduceEqDiff] <;> rfl) (read_mt A1 (Nat.le_of_ble_eq_true rfl))) rfl rfl ?_
    refine o_cl rfl rfl (by simp only [evs, ev, envOf, val_set, ofValue, ofCell, ↓reduceIte, Nat.reduceEqDiff] <;> rfl) rfl (ownR_fin ho (.mk ka na la) hN ka na la rfl _ W2 _ (.mk _ _ _ _ (hS.ext E2))) rfl rfl ?_; rintro _ H4 ⟨ys, yb, yf, ycs, rfl, hyO, hyQ, hyb, hyf, X4⟩
    have W4 := X4.wf; have E4 := E2.trans X4
    have A1 := X4.keep _ _ A1
    have A2 := X4.keep _ _ A2
    have n4 := X4.n
    have hFS := FS.mk (k := ka) (i := na) hyO hyQ hyb hyf hS.bound
    have hoz := FS.one hFS
    refine o_st W4 (by simp only [ev, envOf, val_set, ofValue, ofCell, ↓reduceIte, Nat.reduceEqDiff] <;> rfl) (by simp only [ev, envOf, val_set, ofValue, ofCell, ↓reduceIte, Nat.reduceEqDiff] <;> rfl) A2 Ty.csz24 rfl (Nat.le_of_ble_eq_true rfl) (by first | rfl | (exact ones3 hon) | (exact ones3 hoz) | (exact ones3 hoy)) rfl rfl ?_; intro H5 n5 W5 A5 K5
    have A5 : H5.at H1.n = some (.row [.int .i64 (ka), .int .i64 (na), ys] 24 false none) := A5
    have E5 := Ext.put W0 E4 (by have := E4.n; omega) K5 n5 W5
    have A1 := K5.own A1 (by omega)
    refine o_rd (r_assign (by simp only [ev, envOf, val_set, ofValue, ofCell, ↓reduceIte, Nat.reduceEqDiff] <;> rfl)) rfl rfl ?_
    refine o_nil ?_
    have hr6 : H5.read (.mt H1.n) 0 3 = some [.int .i64 (ka), .int .i64 (na), ys] := read_mt A5 (Nat.le_of_ble_eq_true rfl)
    refine w_ret ⟨.inr rfl, rfl, .tup [.agg [.int .i64 (ka), .int .i64 (na), ys], .bool (true)], (show resultA Try.prog [.cell 4 24, .tmp 5] _ = _ by simp only [resultA, resultsA, envOf, val_set, ↓reduceIte, Nat.reduceEqDiff, Option.map_some, hr6, Ty.agg24, Ty.csz24] <;> rfl), ?_⟩
    try dsimp only
    obtain rfl : ps = [] := by cases ps with | nil => rfl | cons _ _ => exfalso; simp at hc3; try omega
    exact ⟨ka, na, la, ys, rfl, rfl, FS.lower (FS.put hFS K5 (by omega)) (by omega), E5⟩
  · have hc3 := dec_f hc3
    refine w_skip ?_
    refine w_seq ?_
    refine w_seq ?_
    refine w_draw (ms := [0, 0, 2, 6, 15, 31]) (ord := [0, 1, 2, 3, 4, 5]) (by kernel_rfl) (by kernel_rfl) (by kernel_rfl) ?_
    refine d_rd rfl (r_loadN (cs := [.int .i64 (ka), .int .i64 (na), sa]) Ty.agg24 Ty.csz24 (by simp only [ev, envOf, val_set, ofValue, ofCell, ↓reduceIte, Nat.reduceEqDiff] <;> rfl) (read_mt A1 (Nat.le_of_ble_eq_true rfl))) rfl rfl ?_
    refine d_rd rfl (r_move (by simp only [ev, envOf, val_set, ofValue, ofCell, ↓reduceIte, Nat.reduceEqDiff] <;> rfl)) rfl rfl ?_
    obtain ⟨i, p, rfl⟩ : ∃ i p, ps = i :: p := by cases ps with | nil => simp at hc3 | cons i p => exact ⟨i, p, rfl⟩
    obtain ⟨loc2, off2, cap2, rfl, hr2⟩ := hP.1.get (i := 0) (by simp)
    have hr2 : H0.read loc2 (off2 + 0 * 1) 1 = some [.int .i64 i] := hr2
    have hcut := hP.2 _ _ _ _ rfl
    have hcp : (i :: p).length ≤ cap2 := by cases hP.1 with | sl _ _ _ _ _ hc _ => exact hc
    refine d_rd rfl (r_indexAddr Try.underlying28 Ty.csz3 (by simp only [ev, envOf, val_set, ofValue, ofCell, ↓reduceIte, Nat.reduceEqDiff] <;> rfl) (by simp only [ev, envOf, val_set, ofValue, ofCell, ↓reduceIte, Nat.reduceEqDiff] <;> rfl) (show 0 < _ by simp)) rfl rfl ?_
    refine d_rd rfl (r_load1 Ty.agg3 (by simp only [ev, envOf, val_set, ofValue, ofCell, ↓reduceIte, Nat.reduceEqDiff] <;> rfl) (Ext.read (H := H0) (by assumption) hr2)) rfl rfl ?_
    refine d_cl rfl rfl rfl (by simp only [evs, ev, envOf, val_set, ofValue, ofCell, ↓reduceIte, Nat.reduceEqDiff] <;> rfl) rfl (goes_fin ho W2 ka na i la sa (hS.ext E2)) rfl rfl ?_; rintro _ H7 ⟨rfl, X7⟩
    have W7 := X7.wf; have E7 := E2.trans X7
    have A1 := X7.keep _ _ A1
    have A2 := X7.keep _ _ A2
    have n7 := X7.n
    refine ⟨re_forcedL (M := 15) (I := 3) rfl rfl (by decide) (re_forcedL (M := 15) (I := 2) rfl rfl (by decide) (re_forcedL (M := 15) (I := 1) rfl rfl (by decide) (re_forcedL (M := 15) (I := 0) rfl rfl (by decide) (re_nil)))), ?_⟩
    refine d_rd rfl (r_not (by simp only [ev, envOf, val_set, ofValue, ofCell, ↓reduceIte, Nat.reduceEqDiff] <;> rfl)) rfl rfl ?_
    refine d_nil ?_
    refine w_cond (by simp only [ev, envOf, val_set, ofValue, ofCell, ↓reduceIte, Nat.reduceEqDiff] <;> rfl) (fun hc8 => ?_) (fun hc8 => ?_)
    · skip
      refine w_seq ?_
      refine w_region ?_
      refine o_rd (r_build (cs := [.int .i64 (0), .int .i64 (0), .nils]) Ty.zero24 Ty.pl24 (by simp only [evParts, ev, envOf, val_set, ofValue, ofCell, ↓reduceIte, Nat.reduceEqDiff] <;> rfl) rfl) rfl rfl ?_
      refine o_st W7 (by simp only [ev, envOf, val_set, ofValue, ofCell, ↓reduceIte, Nat.reduceEqDiff] <;> rfl) (by simp only [ev, envOf, val_set, ofValue, ofCell, ↓reduceIte, Nat.reduceEqDiff] <;> rfl) A2 Ty.csz24 rfl (Nat.le_of_ble_eq_true rfl) (by first | rfl | (exact ones3 hon) | (exact ones3 hoz) | (exact ones3 hoy)) rfl rfl ?_; intro H9 n9 W9 A9 K9
      have A9 : H9.at H1.n = some (.row [.int .i64 (0), .int .i64 (0), .nils] 24 false none) := A9
      have E9 := Ext.put W0 E7 (by have := E7.n; omega) K9 n9 W9
      have A1 := K9.own A1 (by omega)
      refine o_rd (r_assign (by simp only [ev, envOf, val_set, ofValue, ofCell, ↓reduceIte, Nat.reduceEqDiff] <;> rfl)) rfl rfl ?_
      refine o_nil ?_
      have hr10 : H9.read (.mt H1.n) 0 3 = some [.int .i64 (0), .int .i64 (0), .nils] := read_mt A9 (Nat.le_of_ble_eq_true rfl)
      refine w_ret ⟨.inr rfl, rfl, .tup [.agg [.int .i64 (0), .int .i64 (0), .nils], .bool (false)], (show resultA Try.prog [.cell 4 24, .tmp 5] _ = _ by simp only [resultA, resultsA, envOf, val_set, ↓reduceIte, Nat.reduceEqDiff, Option.map_some, hr10, Ty.agg24, Ty.csz24] <;> rfl), ?_⟩
      try dsimp only
      have hgo : goesB ka la.length i = false := by cases hq : goesB ka la.length i with | false => rfl | true => rw [hq] at hc8; cases hc8
      have hst := goes_step (na := na) hgo
      exact ⟨0, 0, [], .nils, by simp only [partV, hst]; rfl, by simp only [partV, hst, pz, Option.getD], FS.zero, E9⟩
    · skip
      refine w_skip ?_
      refine w_seq ?_
      refine w_draw (ms := [0, 1, 0, 4, 12, 31, 63, 0, 128, 511, 1023, 1023, 4095, 8191]) (ord := [0, 1, 2, 3, 4, 5, 6, 7, 8, 9, 10, 11, 12, 13]) (by kernel_rfl) (by kernel_rfl) (by kernel_rfl) ?_
      have hgo : goesB ka la.length i = true := by cases hq : goesB ka la.length i with | true => rfl | false => rw [hq] at hc8; cases hc8
      obtain ⟨j, rfl, hj, hst⟩ := goes_yes (na := na) hgo
      obtain ⟨loc1, off1, cap1, csx, rfl, hr1, hva⟩ := hS.get hj
      obtain ⟨xk, xn, xl, xs, rfl, hx, hxs⟩ := hva.inv
      have hcx := V.cnt_mem (List.getElem_mem hj); rw [hx] at hcx; have hNN := hN; simp only [V.cnt] at hNN
      refine d_rd rfl (r_fieldAddr Ty.fo24_2 (by simp only [ev, envOf, val_set, ofValue, ofCell, ↓reduceIte, Nat.reduceEqDiff] <;> rfl)) rfl rfl ?_
      refine d_rd rfl (r_load1 (v := .sl loc1 (off1) (la.length) cap1) Ty.agg22 (by simp only [ev, envOf, val_set, ofValue, ofCell, ↓reduceIte, Nat.reduceEqDiff] <;> rfl) (read_mt A1 (Nat.le_of_ble_eq_true rfl))) rfl rfl ?_
      refine d_rd rfl (r_move (by simp only [ev, envOf, val_set, ofValue, ofCell, ↓reduceIte, Nat.reduceEqDiff] <;> rfl)) rfl rfl ?_
      refine d_rd rfl (r_indexAddr Try.underlying28 Ty.csz3 (by simp only [ev, envOf, val_set, ofValue, ofCell, ↓reduceIte, Nat.reduceEqDiff] <;> rfl) (by simp only [ev, envOf, val_set, ofValue, ofCell, ↓reduceIte, Nat.reduceEqDiff] <;> rfl) (show 0 < _ by simp)) rfl rfl ?_
      refine d_rd rfl (r_load1 Ty.agg3 (by simp only [ev, envOf, val_set, ofValue, ofCell, ↓reduceIte, Nat.reduceEqDiff] <;> rfl) (Ext.read (H := H0) (by assumption) hr2)) rfl rfl ?_
      refine d_rd rfl (r_indexAddr Try.underlying22 Ty.csz24 (by simp only [ev, envOf, val_set, ofValue, ofCell, ↓reduceIte, Nat.reduceEqDiff] <;> rfl) (by simp only [ev, envOf, val_set, ofValue, ofCell, ↓reduceIte, Nat.reduceEqDiff] <;> rfl) hj) rfl rfl ?_
      refine d_rd rfl (r_loadN Ty.agg24 Ty.csz24 (by simp only [ev, envOf, val_set, ofValue, ofCell, ↓reduceIte, Nat.reduceEqDiff] <;> rfl) (Ext.read (H := H0) (by assumption) hr1)) rfl rfl ?_
      refine d_rd rfl (r_move (by simp only [ev, envOf, val_set, ofValue, ofCell, ↓reduceIte, Nat.reduceEqDiff] <;> rfl)) rfl rfl ?_
      refine d_rd rfl (r_sliceFrom (j := 1) Try.underlying28 Ty.csz3 (by simp only [ev, envOf, val_set, ofValue, ofCell, ↓reduceIte, Nat.reduceEqDiff] <;> rfl) (by simp only [ev, envOf, val_set, ofValue, ofCell, ↓reduceIte, Nat.reduceEqDiff] <;> rfl) (by simp) (by assumption) (cutOk_ext (H := H0) (by assumption) hcut)) rfl rfl ?_
      refine d_cl rfl rfl rfl (by simp only [evs, ev, envOf, val_set, ofValue, ofCell, ↓reduceIte, Nat.reduceEqDiff] <;> rfl) rfl (ih p (by simp) _ W7 xk xn xl xs _ (hxs.ext E7) ((SIc.tail hP).ext E7) (by omega)) rfl rfl ?_; rintro _ H11 ⟨zk, zn, zl, zs, rfl, hz, hFS, X11⟩
      have W11 := X11.wf; have E11 := E7.trans X11
      have A1 := X11.keep _ _ A1
      have A2 := X11.keep _ _ A2
      have n11 := X11.n
      refine ⟨re_forcedL (M := 511) (I := 8) rfl rfl (by decide) (re_forcedL (M := 511) (I := 7) rfl rfl (by decide) (re_forcedL (M := 511) (I := 6) rfl rfl (by decide) (re_forcedL (M := 511) (I := 5) rfl rfl (by decide) (re_forcedL (M := 511) (I := 4) rfl rfl (by decide) (re_forcedL (M := 511) (I := 3) rfl rfl (by decide) (re_forcedL (M := 511) (I := 2) rfl rfl (by decide) (re_forcedL (M := 511) (I := 1) rfl rfl (by decide) (re_forcedL (M := 511) (I := 0) rfl rfl (by decide) (re_nil))))))))), ?_⟩
      have hoz := FS.one hFS
      refine d_rd rfl (r_extract (by simp only [ev, envOf, val_set, ofValue, ofCell, ↓reduceIte, Nat.reduceEqDiff] <;> rfl) rfl) rfl rfl ?_
      refine d_rd rfl (r_extract (by simp only [ev, envOf, val_set, ofValue, ofCell, ↓reduceIte, Nat.reduceEqDiff] <;> rfl) rfl) rfl rfl ?_
      refine d_st rfl W11 (by simp only [ev, envOf, val_set, ofValue, ofCell, ↓reduceIte, Nat.reduceEqDiff] <;> rfl) (by simp only [ev, envOf, val_set, ofValue, ofCell, ↓reduceIte, Nat.reduceEqDiff] <;> rfl) A2 Ty.csz24 rfl (Nat.le_of_ble_eq_true rfl) (by first | rfl | (exact ones3 hon) | (exact ones3 hoz) | (exact ones3 hoy)) rfl rfl ?_; intro H12 n12 W12 A12 K12
      have A12 : H12.at H1.n = some (.row [.int .i64 (zk), .int .i64 (zn), zs] 24 false none) := A12
      have E12 := Ext.put W0 E11 (by have := E11.n; omega) K12 n12 W12
      have A1 := K12.own A1 (by omega)
      refine ⟨re_forcedL (M := 4095) (I := 11) rfl rfl (by decide) (re_forcedL (M := 4095) (I := 10) rfl rfl (by decide) (re_forcedL (M := 4095) (I := 8) rfl rfl (by decide) (re_forcedL (M := 4095) (I := 7) rfl rfl (by decide) (re_forcedL (M := 4095) (I := 6) rfl rfl (by decide) (re_forcedL (M := 4095) (I := 5) rfl rfl (by decide) (re_forcedL (M := 4095) (I := 4) rfl rfl (by decide) (re_forcedL (M := 4095) (I := 3) rfl rfl (by decide) (re_forcedL (M := 4095) (I := 2) rfl rfl (by decide) (re_forcedL (M := 4095) (I := 1) rfl rfl (by decide) (re_forcedL (M := 4095) (I := 0) rfl rfl (by decide) (re_nil))))))))))), ?_⟩
      refine d_rd rfl (r_assign (by simp only [ev, envOf, val_set, ofValue, ofCell, ↓reduceIte, Nat.reduceEqDiff] <;> rfl)) rfl rfl ?_
      refine d_nil ?_
      have hr13 : H12.read (.mt H1.n) 0 3 = some [.int .i64 (zk), .int .i64 (zn), zs] := read_mt A12 (Nat.le_of_ble_eq_true rfl)
      refine w_ret ⟨.inr rfl, rfl, .tup [.agg [.int .i64 (zk), .int .i64 (zn), zs], .bool ((partV (.mk xk xn xl) p).isSome)], (show resultA Try.prog [.cell 4 24, .tmp 5] _ = _ by simp only [resultA, resultsA, envOf, val_set, ↓reduceIte, Nat.reduceEqDiff, Option.map_some, hr13, Ty.agg24, Ty.csz24] <;> rfl), ?_⟩
      try dsimp only
      exact ⟨zk, zn, zl, zs, by simp only [partV, hst, hx], by simp only [partV, hst, hx]; exact hz, FS.lower (FS.put hFS K12 (by omega)) (by omega), E12⟩
theorem partR_fin (ho : NoOrcBut [9, 35, 36] orc) : ∀ (m : Nat) (ps : List Int), ps.length < m → ∀ (H : AH), Wf H → ∀ (ka na : Int) (la : List V) (sa sp : AV), SA H la sa → SIc H ps sp → (V.mk ka na la).cnt ≤ 1000000 → VI.Fin Try.prog orc 29 [.agg [.int .i64 ka, .int .i64 na, sa], sp] H (fun r H' => ∃ k n l s, r = .tup [.agg [.int .i64 k, .int .i64 n, s], .bool (partV (.mk ka na la) ps).isSome] ∧ pz (partV (.mk ka na la) ps) = .mk k n l ∧ FS H.n H' (.mk k n l) [.int .i64 k, .int .i64 n, s] ∧ Ext H H')
  | 0, _, h, _, _, _, _, _, _, _, _, _, _ => by omega
  | m + 1, ps, h, H, W, ka, na, la, sa, sp, hS, hP, hN => partR_step ho W ka na la sa sp ps hS hP hN (fun q hq H' W' ka' na' la' sa' sq h1 h2 h3 => partR_fin ho m q (by omega) H' W' ka' na' la' sa' sq h1 h2 h3)
end Go.Proofs.Ytenfjdkeikjhlaa.Vs
