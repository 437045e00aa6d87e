/-
  holds: all values that were handed out read as they must.
-/
import Derived.Test.YtenfjdkeikjhlaaFootT
import Derived.Test.YtenfjdkeikjhlaaSame
import Derived.Test.YtenfjdkeikjhlaaWthF
set_option autoImplicit false
set_option linter.unusedVariables false
set_option linter.unusedSimpArgs false
namespace Go.Proofs.Ytenfjdkeikjhlaa.Vs
open Go.VI Go.Proofs
variable {orc : CallF}
theorem eqV_self (v : V) : eqV v v = true := eqV_t.2 rfl
theorem same_two (ho : NoOrcBut [9, 35, 36] orc) {H : AH} (W : Wf H) {v : V} {a b : List AV} (h1 : VA H v a) (h2 : VA H v b) : VI.Fin Try.prog orc 21 [.agg a, .agg b] H (fun r H' => r = .bool true ∧ Ext H H') :=
  (same_fin ho v H W v a b h1 h2).mono fun r H' h => ⟨h.1.trans (by rw [eqV_self]), h.2⟩
theorem own_el {H : AH} {L : List V} {cs : List AV} {b b' off cap i : Nat} {f : Option Nat} (O : Own H 24 3 (.sl (.mt b') off L.length cap) L.length cs b f) (h : LA H L cs) (hi : i < L.length) :
    ∃ k n l s, H.read (.mt b') (off + i * 3) 3 = some [.int .i64 k, .int .i64 n, s] ∧ L[i] = .mk k n l ∧ SA H l s := by
  have hr := (own_read O).2.2
  have := read_part hr (o := i * 3) (m := 3) (by omega)
  obtain ⟨k, n, l, s, h1, h2, h3⟩ := (h.get hi).inv
  rw [h1] at this
  exact ⟨k, n, l, s, this, h2, h3⟩
set_option maxRecDepth 100000 in
set_option maxHeartbeats 4000000 in
theorem holds_fin (ho : NoOrcBut [9, 35, 36] orc) {H0 : AH} (W0 : Wf H0) (hb bo bw oo cpo ow cpw : Nat) (fo fw : Option Nat) (L : List V) (co cw : List AV) (A0 : H0.at hb = some (.row [.sl (.mt bo) oo L.length cpo, .sl (.mt bw) ow L.length cpw] 41 false none)) (hO : Own H0 24 3 (.sl (.mt bo) oo L.length cpo) L.length co bo fo) (hW : Own H0 24 3 (.sl (.mt bw) ow L.length cpw) L.length cw bw fw) (hL1 : LA H0 L co) (hL2 : LA H0 L cw) (hLn : L.length ≤ 1000000) : Fin Try.prog orc 47 [.ptr (.mt (hb)) (0)] H0 (fun r H' => r = .bool true ∧ Ext H0 H') := by
  have E0 := Ext.refl W0
  refine fin_of Try.func47 rfl (by rw [Try.ntmps47]; simp) (ho _ rfl _ _) ?_
  rw [Try.ntmps47]
  refine w_seq ?_
  refine w_region ?_
  refine o_rd (r_assign (by simp only [ev, envOf, val_set, ofValue, ofCell, ↓reduceIte, Nat.reduceEqDiff] <;> rfl)) rfl rfl ?_
  refine o_nil ?_
  refine w_seq ?_
  refine w_seq ?_
  refine w_region ?_
  refine o_rd (r_assign (by simp only [ev, envOf, val_set, ofValue, ofCell, ↓reduceIte, Nat.reduceEqDiff] <;> rfl)) rfl rfl ?_
  refine o_nil ?_
  refine w_block ?_
  refine w_loop (fun m s => ∃ (e : Env) (H : AH) (i : Nat), s = ⟨e, H, []⟩ ∧ e.val 0 = .ptr (.mt (hb)) (0) ∧ e.val 2 = .bool (false) ∧ e.val 3 = .int .i64 (((i : Nat) : Int)) ∧ Wf H ∧ Ext H0 H ∧ H.at (hb) = some (.row [.sl (.mt bo) (oo) (L.length) cpo, .sl (.mt bw) (ow) (L.length) cpw] 41 false none) ∧ (i + m = L.length)) (L.length) ⟨_, H0, 0, rfl, (by simp only [val_set, ↓reduceIte, Nat.reduceEqDiff] <;> rfl), (by simp only [val_set, ↓reduceIte, Nat.reduceEqDiff] <;> rfl), (by simp only [val_set, ↓reduceIte, Nat.reduceEqDiff] <;> rfl), W0, E0, A0, by omega⟩ ?_
  intro m s hi
  obtain ⟨e, H1, i, rfl, v0, v2, v3, W1, E1, A0, him⟩ := hi
  have l1_0 := W1.lt A0
  refine w_seq ?_
  refine w_seq ?_
  refine w_region ?_
  refine o_rd (r_move (by simp only [ev, envOf, val_set, ofValue, ofCell, ↓reduceIte, Nat.reduceEqDiff, v0, v2, v3] <;> rfl)) rfl rfl ?_
  refine o_rd (r_move (by simp only [ev, envOf, val_set, ofValue, ofCell, ↓reduceIte, Nat.reduceEqDiff, v0, v2, v3] <;> rfl)) rfl rfl ?_
  refine o_rd (r_nilCheck (by simp only [ev, envOf, val_set, ofValue, ofCell, ↓reduceIte, Nat.reduceEqDiff, v0, v2, v3] <;> rfl)) rfl rfl ?_
  refine o_rd (r_fieldAddr Ty.fo41_0 (by simp only [ev, envOf, val_set, ofValue, ofCell, ↓reduceIte, Nat.reduceEqDiff, v0, v2, v3] <;> rfl)) rfl rfl ?_
  refine o_rd (r_load1 (v := .sl (.mt bo) (oo) (L.length) cpo) Ty.agg22 (by simp only [ev, envOf, val_set, ofValue, ofCell, ↓reduceIte, Nat.reduceEqDiff, v0, v2, v3] <;> rfl) (read_mt A0 (Nat.le_of_ble_eq_true rfl))) rfl rfl ?_
  refine o_rd (r_len (n := L.length) Try.underlying22 (by simp only [ev, envOf, val_set, ofValue, ofCell, ↓reduceIte, Nat.reduceEqDiff, v0, v2, v3] <;> rfl) rfl) rfl rfl ?_
  refine o_rd (r_lt (a := ((i : Nat) : Int)) (b := ((L.length : Nat) : Int)) (by simp only [ev, envOf, val_set, ofValue, ofCell, ↓reduceIte, Nat.reduceEqDiff, v0, v2, v3] <;> rfl) (by simp only [ev, envOf, val_set, ofValue, ofCell, ↓reduceIte, Nat.reduceEqDiff, v0, v2, v3] <;> rfl)) rfl rfl ?_
  refine o_nil ?_
  refine w_cond (by simp only [ev, envOf, val_set, ofValue, ofCell, ↓reduceIte, Nat.reduceEqDiff, v0, v2, v3] <;> rfl) (fun hc2 => ?_) (fun hc2 => ?_)
  · have hc2 := dec_t hc2
    refine w_skip ?_
    refine w_seq ?_
    refine w_block ?_
    refine w_seq ?_
    refine w_draw (ms := [0, 1, 3, 7, 0, 31, 63, 0, 128, 384, 896, 0, 3968, 8064, 16383, 32767]) (ord := [0, 1, 2, 3, 4, 5, 6, 7, 8, 9, 10, 11, 12, 13, 14, 15]) (by kernel_rfl) (by kernel_rfl) (by kernel_rfl) ?_
    have hi1 : i < L.length := by omega
    obtain ⟨k1, m1, l1, s1, hr1, hx1, hs1⟩ := own_el hO hL1 hi1
    obtain ⟨k2, m2, l2, s2, hr2, hx2, hs2⟩ := own_el hW hL2 hi1
    refine d_rd rfl (r_move (by simp only [ev, envOf, val_set, ofValue, ofCell, ↓reduceIte, Nat.reduceEqDiff, v0, v2, v3] <;> rfl)) rfl rfl ?_
    refine d_rd rfl (r_nilCheck (by simp only [ev, envOf, val_set, ofValue, ofCell, ↓reduceIte, Nat.reduceEqDiff, v0, v2, v3] <;> rfl)) rfl rfl ?_
    refine d_rd rfl (r_fieldAddr Ty.fo41_0 (by simp only [ev, envOf, val_set, ofValue, ofCell, ↓reduceIte, Nat.reduceEqDiff, v0, v2, v3] <;> rfl)) rfl rfl ?_
    refine d_rd rfl (r_load1 (v := .sl (.mt bo) (oo) (L.length) cpo) Ty.agg22 (by simp only [ev, envOf, val_set, ofValue, ofCell, ↓reduceIte, Nat.reduceEqDiff, v0, v2, v3] <;> rfl) (read_mt A0 (Nat.le_of_ble_eq_true rfl))) rfl rfl ?_
    refine d_rd rfl (r_move (by simp only [ev, envOf, val_set, ofValue, ofCell, ↓reduceIte, Nat.reduceEqDiff, v0, v2, v3] <;> rfl)) rfl rfl ?_
    refine d_rd rfl (r_indexAddr Try.underlying22 Ty.csz24 (by simp only [ev, envOf, val_set, ofValue, ofCell, ↓reduceIte, Nat.reduceEqDiff, v0, v2, v3] <;> rfl) (by simp only [ev, envOf, val_set, ofValue, ofCell, ↓reduceIte, Nat.reduceEqDiff, v0, v2, v3] <;> rfl) hi1) rfl rfl ?_
    refine d_rd rfl (r_loadN Ty.agg24 Ty.csz24 (by simp only [ev, envOf, val_set, ofValue, ofCell, ↓reduceIte, Nat.reduceEqDiff, v0, v2, v3] <;> rfl) (E1.read hr1)) rfl rfl ?_
    refine d_rd rfl (r_move (by simp only [ev, envOf, val_set, ofValue, ofCell, ↓reduceIte, Nat.reduceEqDiff, v0, v2, v3] <;> rfl)) rfl rfl ?_
    refine d_rd rfl (r_nilCheck (by simp only [ev, envOf, val_set, ofValue, ofCell, ↓reduceIte, Nat.reduceEqDiff, v0, v2, v3] <;> rfl)) rfl rfl ?_
    refine d_rd rfl (r_fieldAddr Ty.fo41_1 (by simp only [ev, envOf, val_set, ofValue, ofCell, ↓reduceIte, Nat.reduceEqDiff, v0, v2, v3] <;> rfl)) rfl rfl ?_
    refine d_rd rfl (r_load1 (v := .sl (.mt bw) (ow) (L.length) cpw) Ty.agg22 (by simp only [ev, envOf, val_set, ofValue, ofCell, ↓reduceIte, Nat.reduceEqDiff, v0, v2, v3] <;> rfl) (read_mt A0 (Nat.le_of_ble_eq_true rfl))) rfl rfl ?_
    refine d_rd rfl (r_move (by simp only [ev, envOf, val_set, ofValue, ofCell, ↓reduceIte, Nat.reduceEqDiff, v0, v2, v3] <;> rfl)) rfl rfl ?_
    refine d_rd rfl (r_indexAddr Try.underlying22 Ty.csz24 (by simp only [ev, envOf, val_set, ofValue, ofCell, ↓reduceIte, Nat.reduceEqDiff, v0, v2, v3] <;> rfl) (by simp only [ev, envOf, val_set, ofValue, ofCell, ↓reduceIte, Nat.reduceEqDiff, v0, v2, v3] <;> rfl) hi1) rfl rfl ?_
    refine d_rd rfl (r_loadN Ty.agg24 Ty.csz24 (by simp only [ev, envOf, val_set, ofValue, ofCell, ↓reduceIte, Nat.reduceEqDiff, v0, v2, v3] <;> rfl) (E1.read hr2)) rfl rfl ?_
    refine d_cl rfl rfl rfl (by simp only [evs, ev, envOf, val_set, ofValue, ofCell, ↓reduceIte, Nat.reduceEqDiff, v0, v2, v3] <;> rfl) rfl (same_two ho (v := L[i]) W1 (hx1 ▸ VA.mk _ _ _ _ (hs1.ext E1)) (hx2 ▸ VA.mk _ _ _ _ (hs2.ext E1))) rfl rfl ?_; rintro _ H3 ⟨rfl, X3⟩
    have W3 := X3.wf; have E3 := E1.trans X3
    have A0 := X3.keep _ _ A0
    have n3 := X3.n
    refine ⟨re_forcedL (M := 16383) (I := 13) rfl rfl (by decide) (re_forcedL (M := 16383) (I := 12) rfl rfl (by decide) (re_forcedL (M := 16383) (I := 11) rfl rfl (by decide) (re_forcedL (M := 16383) (I := 10) rfl rfl (by decide) (re_forcedL (M := 16383) (I := 9) rfl rfl (by decide) (re_forcedL (M := 16383) (I := 8) rfl rfl (by decide) (re_forcedL (M := 16383) (I := 7) rfl rfl (by decide) (re_forcedL (M := 16383) (I := 6) rfl rfl (by decide) (re_forcedL (M := 16383) (I := 5) rfl rfl (by decide) (re_forcedL (M := 16383) (I := 4) rfl rfl (by decide) (re_forcedL (M := 16383) (I := 3) rfl rfl (by decide) (re_forcedL (M := 16383) (I := 2) rfl rfl (by decide) (re_forcedL (M := 16383) (I := 1) rfl rfl (by decide) (re_forcedL (M := 16383) (I := 0) rfl rfl (by decide) (re_nil)))))))))))))), ?_⟩
    refine d_rd rfl (r_assign (by simp only [ev, envOf, val_set, ofValue, ofCell, ↓reduceIte, Nat.reduceEqDiff, v0, v2, v3] <;> rfl)) rfl rfl ?_
    refine d_nil ?_
    refine w_seq ?_
    refine w_region ?_
    refine o_rd (r_move (by simp only [ev, envOf, val_set, ofValue, ofCell, ↓reduceIte, Nat.reduceEqDiff, v0, v2, v3] <;> rfl)) rfl rfl ?_
    refine o_rd (r_not (by simp only [ev, envOf, val_set, ofValue, ofCell, ↓reduceIte, Nat.reduceEqDiff, v0, v2, v3] <;> rfl)) rfl rfl ?_
    refine o_nil ?_
    refine w_cond (t := false) (by simp only [ev, envOf, val_set, ofValue, ofCell, ↓reduceIte, Nat.reduceEqDiff, v0, v2, v3] <;> rfl) (fun h => by cases h) (fun _ => ?_)
    refine w_skip ?_
    refine w_region ?_
    refine o_rd (r_move (by simp only [ev, envOf, val_set, ofValue, ofCell, ↓reduceIte, Nat.reduceEqDiff, v0, v2, v3] <;> rfl)) rfl rfl ?_
    refine o_rd (r_addE (a := ((i : Nat) : Int)) (b := 1) (c := ((i + 1 : Nat) : Int)) (by simp only [ev, envOf, val_set, ofValue, ofCell, ↓reduceIte, Nat.reduceEqDiff, v0, v2, v3] <;> rfl) (by simp only [ev, envOf, val_set, ofValue, ofCell, ↓reduceIte, Nat.reduceEqDiff, v0, v2, v3] <;> rfl) (by omega) (by omega) (by omega)) rfl rfl ?_
    refine o_rd (r_assign (by simp only [ev, envOf, val_set, ofValue, ofCell, ↓reduceIte, Nat.reduceEqDiff, v0, v2, v3] <;> rfl)) rfl rfl ?_
    refine o_nil ?_
    exact ⟨m - 1, by omega, _, H3, i + 1, rfl, (by simp only [val_set, ↓reduceIte, Nat.reduceEqDiff, v0, v2, v3] <;> rfl), (by simp only [val_set, ↓reduceIte, Nat.reduceEqDiff, v0, v2, v3] <;> rfl), (by simp only [val_set, ↓reduceIte, Nat.reduceEqDiff, v0, v2, v3] <;> rfl), W3, E3, A0, by omega⟩
  · have hc2 := dec_f hc2
    first | refine w_exit (blk_exit ?_) | refine w_exit (show (0 = 0 → _) ∧ (0 ≠ 0 → _) from ⟨fun _ => ?_, fun c => absurd rfl c⟩)
    refine w_seq ?_
    refine w_region ?_
    refine o_rd (r_assign (by simp only [ev, envOf, val_set, ofValue, ofCell, ↓reduceIte, Nat.reduceEqDiff, v0, v2, v3] <;> rfl)) rfl rfl ?_
    refine o_nil ?_
    refine w_ret ⟨.inr rfl, rfl, .bool (true), (show resultA Try.prog [.tmp 2] _ = _ by simp only [resultA, resultsA, envOf, val_set, ↓reduceIte, Nat.reduceEqDiff, Option.map_some, v0, v2, v3] <;> rfl), ?_⟩
    try dsimp only
    first | exact ⟨rfl, E1⟩ | (exfalso; omega)
theorem holds_of (ho : NoOrcBut [9, 35, 36] orc) {H : AH} (W : Wf H) {nL hb bo bw oo cpo ow cpw : Nat} {fo fw : Option Nat} {L : List V} {co cw : List AV} (hn : L.length = nL) (A0 : H.at hb = some (.row [.sl (.mt bo) oo nL cpo, .sl (.mt bw) ow nL cpw] 41 false none)) (hO : Own H 24 3 (.sl (.mt bo) oo nL cpo) nL co bo fo) (hW : Own H 24 3 (.sl (.mt bw) ow nL cpw) nL cw bw fw) (hL1 : LA H L co) (hL2 : LA H L cw) (hLn : nL ≤ 1000000) :
    VI.Fin Try.prog orc 47 [.ptr (.mt hb) 0] H (fun r H' => r = .bool true ∧ Ext H H') := by
  subst hn
  exact holds_fin ho W hb bo bw oo cpo ow cpw fo fw L co cw A0 hO hW hL1 hL2 hLn
end Go.Proofs.Ytenfjdkeikjhlaa.Vs
