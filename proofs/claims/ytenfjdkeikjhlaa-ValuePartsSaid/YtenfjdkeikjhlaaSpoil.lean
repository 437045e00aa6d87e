/-
  spoil: whoever has the values marks each place, and lets each list grow; all read as they must.
-/
import Derived.Test.YtenfjdkeikjhlaaKeep
set_option autoImplicit false
set_option linter.unusedVariables false
set_option linter.unusedSimpArgs false
namespace Go.VI
theorem FL.set {H H' : AH} {e i : Nat} {bs : List Nat} {l : List V} {cs : List AV} (h : FL H e bs l cs) (hi : i < l.length) :
    ∃ b1 b2 b3, bs = b1 ++ (b2 ++ b3) ∧ FT H e b2 l[i] ((cs.drop (i * 3)).take 3) ∧ ∀ (H' : AH) (v' : V), FT H' e b2 v' ((cs.drop (i * 3)).take 3) → (∀ c ∈ b1 ++ b3, ∀ x, H.at c = some x → H'.at c = some x) → FL H' e bs (l.set i v') cs := by
  obtain ⟨b1, b2, b3, c1, a, c2, rfl, rfl, hl, h1, h2, h3⟩ := h.split hi
  have ha : ((c1 ++ (a ++ c2)).drop (i * 3)).take 3 = a := by rw [← hl, List.drop_left, List.take_append_of_le_length (by rw [h2.len]; omega), List.take_of_length_le (by rw [h2.len]; omega)]
  rw [ha]
  refine ⟨b1, b2, b3, rfl, h2, fun H' v' g k => ?_⟩
  rw [set_parts hi]
  exact (h1.keep fun c hc => k c (List.mem_append_left _ hc)).append (.cons _ _ _ _ _ _ g (h3.keep fun c hc => k c (List.mem_append_right _ hc)))
theorem FL.ext {H H' : AH} {e : Nat} {bs : List Nat} {l : List V} {cs : List AV} (h : FL H e bs l cs) (E : Ext H H') : FL H' e bs l cs := FL.keep h fun c _ x hx => E.keep c x hx
theorem SA.cells {H : AH} {l : List V} {s : AV} (h : SA H l s) : s.cells = [s] := by cases h <;> rfl
theorem fill3 {s : AV} (h : s.cells = [s]) : fillA ([(0, 1), (1, 1), (2, 1)][·]?) (AV.agg [.int .i64 0, .int .i64 0, .nils]).cells [(2, s)] = some [.int .i64 0, .int .i64 0, s] := by
  simp only [fillA, List.getElem?_cons_succ, List.getElem?_cons_zero, h, List.length_cons, List.length_nil]; rfl
theorem V.cnts_set : ∀ {l : List V} {i : Nat} {v : V} (hi : i < l.length), v.cnt = (l[i]).cnt → V.cnts (l.set i v) = V.cnts l
  | x :: l, 0, v, _, h => by simp only [List.set_cons_zero, V.cnts]; simp only [List.getElem_cons_zero] at h; omega
  | x :: l, i + 1, v, hi, h => by
    simp only [List.set_cons_succ, V.cnts]
    rw [V.cnts_set (by simpa using hi) (by simpa using h)]
theorem ownS_el {H : AH} {n : Nat} {cs : List AV} {b b' off cap i : Nat} {f : Option Nat} (O : Own H 22 1 (.sl (.mt b') off n cap) n cs b f) (hi : i < n) {s : AV} (hs : (cs.drop i).take 1 = [s]) : H.read (.mt b') (off + i * 1) 1 = some [s] := by
  have hr := (own_read O).2.2
  have := read_part hr (o := i) (m := 1) (by omega)
  rw [Nat.mul_one, this, hs]
end Go.VI
namespace Go.Proofs.Ytenfjdkeikjhlaa.Vs
open Go.VI Go.Proofs
variable {orc : CallF}
theorem _root_.Go.VI.Fr.refl {X : List Nat} {H : AH} (W : Wf H) : Fr X H H := ⟨Nat.le_refl _, W, fun _ _ h _ => h⟩
set_option maxRecDepth 100000 in
set_option maxHeartbeats 4000000 in
theorem spoil_fin (ho : NoOrcBut [9, 35, 36] orc) {H0 HS : AH} (W0 : Wf H0) (WS : Wf HS) (ES : Ext H0 HS) (nL hb bo bw oo cpo ow cpw : Nat) (fo fw : Option Nat) (L : List V) (co cw : List AV) (Fo Fw : List Nat) (A0 : HS.at hb = some (.row [.sl (.mt bo) oo nL cpo, .sl (.mt bw) ow nL cpw] 41 false none)) (hO : Own HS 24 3 (.sl (.mt bo) oo nL cpo) nL co bo fo) (hW : Own HS 24 3 (.sl (.mt bw) ow nL cpw) nL cw bw fw) (hL1 : FL HS 0 Fo L co) (hL2 : FL HS 1 Fw L cw) (hnd : (Fo ++ Fw).Nodup) (hbr : ∀ c ∈ Fo ++ Fw, c ≠ hb ∧ c ≠ bo ∧ c ≠ bw ∧ c < HS.n ∧ H0.n ≤ c) (hLn : L.length = nL) (hnL : nL ≤ 1000) (hcL : V.cnts L ≤ 10000000) : Fin Try.prog orc 32 [.ptr (.mt (hb)) (0)] HS (fun r H' => r = .bool true ∧ Fr (Fo ++ Fw) HS H' ∧ Ext H0 H') := by
  have E0 := ES
  have hbl := WS.lt A0; have hbo : bo ∉ Fo ++ Fw := fun h => (hbr bo h).2.1 rfl; have hbw : bw ∉ Fo ++ Fw := fun h => (hbr bw h).2.2.1 rfl
  refine fin_of Try.func32 rfl (by rw [Try.ntmps32]; simp) (ho _ rfl _ _) ?_
  rw [Try.ntmps32]
  refine w_seq ?_
  refine w_region ?_
  refine o_rd (r_assign (by simp only [ev, envOf, val_set, ofValue, ofCell, ↓reduceIte, Nat.reduceEqDiff] <;> rfl)) rfl rfl ?_
  refine o_nil ?_
  refine w_seq ?_
  refine w_region ?_
  refine o_rd (r_move (by simp only [ev, envOf, val_set, ofValue, ofCell, ↓reduceIte, Nat.reduceEqDiff] <;> rfl)) rfl rfl ?_
  have FR1 : Fr (Fo ++ Fw) HS HS := (Fr.refl WS)
  refine o_cl rfl rfl (by simp only [evs, ev, envOf, val_set, ofValue, ofCell, ↓reduceIte, Nat.reduceEqDiff] <;> rfl) rfl (holds_of ho WS hLn A0 (Own.keep hO fun x hx _ => FR1.keep _ _ hx hbo) (Own.keep hW fun x hx _ => FR1.keep _ _ hx hbw) hL1.la hL2.la (by omega)) rfl rfl ?_; rintro _ H2 ⟨rfl, X2⟩
  have W2 := X2.wf; have E2 := E0.trans X2
  have A0 := X2.keep _ _ A0
  have n2 := X2.n
  refine o_rd (r_assign (by simp only [ev, envOf, val_set, ofValue, ofCell, ↓reduceIte, Nat.reduceEqDiff] <;> rfl)) rfl rfl ?_
  refine o_nil ?_
  refine w_seq ?_
  refine w_seq ?_
  refine w_region ?_
  refine o_rd (r_assign (by simp only [ev, envOf, val_set, ofValue, ofCell, ↓reduceIte, Nat.reduceEqDiff] <;> rfl)) rfl rfl ?_
  refine o_nil ?_
  refine w_block ?_
  have FR3 : Fr (Fo ++ Fw) HS H2 := (FR1.ext X2)
  refine w_loop (fun m s => ∃ (e : Env) (H : AH) (i : Nat) (M : List V), s = ⟨e, H, []⟩ ∧ e.val 0 = .ptr (.mt (hb)) (0) ∧ e.val 2 = .bool (false) ∧ e.val 3 = .bool (true) ∧ e.val 4 = .int .i64 (((i : Nat) : Int)) ∧ Wf H ∧ Ext H0 H ∧ H.at (hb) = some (.row [.sl (.mt bo) (oo) (nL) cpo, .sl (.mt bw) (ow) (nL) cpw] 41 false none) ∧ (FL H 0 Fo M co) ∧ (FL H 1 Fw M cw) ∧ (Fr (Fo ++ Fw) HS H) ∧ (M.length = nL) ∧ (V.cnts M = V.cnts L) ∧ (i + m = nL)) (nL) ⟨_, H2, 0, L, rfl, (by simp only [val_set, ↓reduceIte, Nat.reduceEqDiff] <;> rfl), (by simp only [val_set, ↓reduceIte, Nat.reduceEqDiff] <;> rfl), (by simp only [val_set, ↓reduceIte, Nat.reduceEqDiff] <;> rfl), (by simp only [val_set, ↓reduceIte, Nat.reduceEqDiff] <;> rfl), W2, E2, A0, (hL1.ext X2), (hL2.ext X2), FR3, hLn, rfl, by omega⟩ ?_
  intro m s hi
  obtain ⟨e, H4, i, M, rfl, v0, v2, v3, v4, W4, E4, A0, hM1, hM2, hF, hMn, hcn, him⟩ := hi
  have l4_0 := W4.lt A0
  have hFn := hF.n
  refine w_seq ?_
  refine w_seq ?_
  refine w_region ?_
  refine o_rd (r_move (by simp only [ev, envOf, val_set, ofValue, ofCell, ↓reduceIte, Nat.reduceEqDiff, v0, v2, v3, v4] <;> rfl)) rfl rfl ?_
  refine o_rd (r_move (by simp only [ev, envOf, val_set, ofValue, ofCell, ↓reduceIte, Nat.reduceEqDiff, v0, v2, v3, v4] <;> rfl)) rfl rfl ?_
  refine o_rd (r_nilCheck (by simp only [ev, envOf, val_set, ofValue, ofCell, ↓reduceIte, Nat.reduceEqDiff, v0, v2, v3, v4] <;> rfl)) rfl rfl ?_
  refine o_rd (r_fieldAddr Ty.fo41_0 (by simp only [ev, envOf, val_set, ofValue, ofCell, ↓reduceIte, Nat.reduceEqDiff, v0, v2, v3, v4] <;> rfl)) rfl rfl ?_
  refine o_rd (r_load1 (v := .sl (.mt bo) (oo) (nL) cpo) Ty.agg22 (by simp only [ev, envOf, val_set, ofValue, ofCell, ↓reduceIte, Nat.reduceEqDiff, v0, v2, v3, v4] <;> rfl) (read_mt A0 (Nat.le_of_ble_eq_true rfl))) rfl rfl ?_
  refine o_rd (r_len (n := nL) Try.underlying22 (by simp only [ev, envOf, val_set, ofValue, ofCell, ↓reduceIte, Nat.reduceEqDiff, v0, v2, v3, v4] <;> rfl) rfl) rfl rfl ?_
  refine o_rd (r_lt (a := ((i : Nat) : Int)) (b := ((nL : Nat) : Int)) (by simp only [ev, envOf, val_set, ofValue, ofCell, ↓reduceIte, Nat.reduceEqDiff, v0, v2, v3, v4] <;> rfl) (by simp only [ev, envOf, val_set, ofValue, ofCell, ↓reduceIte, Nat.reduceEqDiff, v0, v2, v3, v4] <;> rfl)) rfl rfl ?_
  refine o_nil ?_
  refine w_cond (by simp only [ev, envOf, val_set, ofValue, ofCell, ↓reduceIte, Nat.reduceEqDiff, v0, v2, v3, v4] <;> rfl) (fun hc5 => ?_) (fun hc5 => ?_)
  · have hc5 := dec_t hc5
    refine w_skip ?_
    refine w_seq ?_
    refine w_block ?_
    refine w_draw (ms := [0, 1, 3, 7, 0, 31, 63, 0, 128, 384, 896, 0, 3968, 8064, 0, 16384, 49152, 131071]) (ord := [0, 1, 2, 3, 4, 5, 6, 7, 8, 9, 10, 11, 12, 13, 14, 15, 16, 17]) (by kernel_rfl) (by kernel_rfl) (by kernel_rfl) ?_
    have hi1 : i < nL := by omega
    have hiM : i < M.length := by omega
    have hOi : Own H4 24 3 (.sl (.mt bo) oo nL cpo) nL co bo fo := Own.keep hO fun x hx _ => hF.keep _ _ hx hbo
    have hWi : Own H4 24 3 (.sl (.mt bw) ow nL cpw) nL cw bw fw := Own.keep hW fun x hx _ => hF.keep _ _ hx hbw
    obtain ⟨p1, p2, p3, hbe1, hx1, hf1⟩ := FL.set (H' := AH.empty) hM1 hiM
    obtain ⟨w1, w2, w3, hbe2, hx2, hf2⟩ := FL.set (H' := AH.empty) hM2 hiM
    subst hbe1; subst hbe2
    obtain ⟨k1, m1, l1, s1, he1, hli, ht1⟩ := hx1.inv
    obtain ⟨k2, m2, l2, s2, he2, hli2, ht2⟩ := hx2.inv
    have hr1 : H4.read (.mt bo) (oo + i * 3) 3 = some [.int .i64 k1, .int .i64 m1, s1] := by have := read_part (own_read hOi).2.2 (o := i * 3) (m := 3) (by omega); rw [he1] at this; exact this
    have hr2 : H4.read (.mt bw) (ow + i * 3) 3 = some [.int .i64 k2, .int .i64 m2, s2] := by have := read_part (own_read hWi).2.2 (o := i * 3) (m := 3) (by omega); rw [he2] at this; exact this
    rw [he1] at hx1 hf1; rw [he2] at hx2 hf2
    refine d_rd rfl (r_move (by simp only [ev, envOf, val_set, ofValue, ofCell, ↓reduceIte, Nat.reduceEqDiff, v0, v2, v3, v4] <;> rfl)) rfl rfl ?_
    refine d_rd rfl (r_nilCheck (by simp only [ev, envOf, val_set, ofValue, ofCell, ↓reduceIte, Nat.reduceEqDiff, v0, v2, v3, v4] <;> rfl)) rfl rfl ?_
    refine d_rd rfl (r_fieldAddr Ty.fo41_0 (by simp only [ev, envOf, val_set, ofValue, ofCell, ↓reduceIte, Nat.reduceEqDiff, v0, v2, v3, v4] <;> rfl)) rfl rfl ?_
    refine d_rd rfl (r_load1 (v := .sl (.mt bo) (oo) (nL) cpo) Ty.agg22 (by simp only [ev, envOf, val_set, ofValue, ofCell, ↓reduceIte, Nat.reduceEqDiff, v0, v2, v3, v4] <;> rfl) (read_mt A0 (Nat.le_of_ble_eq_true rfl))) rfl rfl ?_
    refine d_rd rfl (r_move (by simp only [ev, envOf, val_set, ofValue, ofCell, ↓reduceIte, Nat.reduceEqDiff, v0, v2, v3, v4] <;> rfl)) rfl rfl ?_
    refine d_rd rfl (r_indexAddr Try.underlying22 Ty.csz24 (by simp only [ev, envOf, val_set, ofValue, ofCell, ↓reduceIte, Nat.reduceEqDiff, v0, v2, v3, v4] <;> rfl) (by simp only [ev, envOf, val_set, ofValue, ofCell, ↓reduceIte, Nat.reduceEqDiff, v0, v2, v3, v4] <;> rfl) hi1) rfl rfl ?_
    refine d_rd rfl (r_loadN Ty.agg24 Ty.csz24 (by simp only [ev, envOf, val_set, ofValue, ofCell, ↓reduceIte, Nat.reduceEqDiff, v0, v2, v3, v4] <;> rfl) hr1) rfl rfl ?_
    refine d_rd rfl (r_move (by simp only [ev, envOf, val_set, ofValue, ofCell, ↓reduceIte, Nat.reduceEqDiff, v0, v2, v3, v4] <;> rfl)) rfl rfl ?_
    refine d_rd rfl (r_nilCheck (by simp only [ev, envOf, val_set, ofValue, ofCell, ↓reduceIte, Nat.reduceEqDiff, v0, v2, v3, v4] <;> rfl)) rfl rfl ?_
    refine d_rd rfl (r_fieldAddr Ty.fo41_1 (by simp only [ev, envOf, val_set, ofValue, ofCell, ↓reduceIte, Nat.reduceEqDiff, v0, v2, v3, v4] <;> rfl)) rfl rfl ?_
    refine d_rd rfl (r_load1 (v := .sl (.mt bw) (ow) (nL) cpw) Ty.agg22 (by simp only [ev, envOf, val_set, ofValue, ofCell, ↓reduceIte, Nat.reduceEqDiff, v0, v2, v3, v4] <;> rfl) (read_mt A0 (Nat.le_of_ble_eq_true rfl))) rfl rfl ?_
    refine d_rd rfl (r_move (by simp only [ev, envOf, val_set, ofValue, ofCell, ↓reduceIte, Nat.reduceEqDiff, v0, v2, v3, v4] <;> rfl)) rfl rfl ?_
    refine d_rd rfl (r_indexAddr Try.underlying22 Ty.csz24 (by simp only [ev, envOf, val_set, ofValue, ofCell, ↓reduceIte, Nat.reduceEqDiff, v0, v2, v3, v4] <;> rfl) (by simp only [ev, envOf, val_set, ofValue, ofCell, ↓reduceIte, Nat.reduceEqDiff, v0, v2, v3, v4] <;> rfl) hi1) rfl rfl ?_
    refine d_rd rfl (r_loadN Ty.agg24 Ty.csz24 (by simp only [ev, envOf, val_set, ofValue, ofCell, ↓reduceIte, Nat.reduceEqDiff, v0, v2, v3, v4] <;> rfl) hr2) rfl rfl ?_
    refine d_rd rfl (r_move (by simp only [ev, envOf, val_set, ofValue, ofCell, ↓reduceIte, Nat.reduceEqDiff, v0, v2, v3, v4] <;> rfl)) rfl rfl ?_
    refine d_rd rfl (r_mulW (a := 1000) (b := ((i : Nat) : Int)) (by simp only [ev, envOf, val_set, ofValue, ofCell, ↓reduceIte, Nat.reduceEqDiff, v0, v2, v3, v4] <;> rfl) (by simp only [ev, envOf, val_set, ofValue, ofCell, ↓reduceIte, Nat.reduceEqDiff, v0, v2, v3, v4] <;> rfl)) rfl rfl ?_
    refine d_rd rfl (r_addW (a := wrapA .i64 (1000 * ((i : Nat) : Int))) (b := 1) (by simp only [ev, envOf, val_set, ofValue, ofCell, ↓reduceIte, Nat.reduceEqDiff, v0, v2, v3, v4] <;> rfl) (by simp only [ev, envOf, val_set, ofValue, ofCell, ↓reduceIte, Nat.reduceEqDiff, v0, v2, v3, v4] <;> rfl)) rfl rfl ?_
    refine d_cl rfl rfl rfl (by simp only [evs, ev, envOf, val_set, ofValue, ofCell, ↓reduceIte, Nat.reduceEqDiff, v0, v2, v3, v4] <;> rfl) rfl (mark_fin ho W0 M[i] _ W4 E4 (wrapA .i64 (wrapA .i64 (1000 * ((i : Nat) : Int)) + 1)) p2 w2 _ _ hx1 hx2 (by simp only [List.nodup_append, List.mem_append] at hnd ⊢; grind) (fun c hc => by have := hbr c (by simp only [List.mem_append] at hc ⊢; grind); have hFn := hF.n; omega)) rfl rfl ?_
    rintro _ H6 ⟨rfl, hV2, hW2, FQ, E6⟩
    have W6 := FQ.wf; have n6 := FQ.n
    have A0 := FQ.keep _ _ A0 (fun hc => by have := hbr (hb) (by simp only [List.mem_append] at hc ⊢; grind); omega)
    refine ⟨re_forcedL (M := 131071) (I := 16) rfl rfl (by decide) (re_forcedL (M := 131071) (I := 15) rfl rfl (by decide) (re_forcedL (M := 131071) (I := 14) rfl rfl (by decide) (re_forcedL (M := 131071) (I := 13) rfl rfl (by decide) (re_forcedL (M := 131071) (I := 12) rfl rfl (by decide) (re_forcedL (M := 131071) (I := 11) rfl rfl (by decide) (re_forcedL (M := 131071) (I := 10) rfl rfl (by decide) (re_forcedL (M := 131071) (I := 9) rfl rfl (by decide) (re_forcedL (M := 131071) (I := 8) rfl rfl (by decide) (re_forcedL (M := 131071) (I := 7) rfl rfl (by decide) (re_forcedL (M := 131071) (I := 6) rfl rfl (by decide) (re_forcedL (M := 131071) (I := 5) rfl rfl (by decide) (re_forcedL (M := 131071) (I := 4) rfl rfl (by decide) (re_forcedL (M := 131071) (I := 3) rfl rfl (by decide) (re_forcedL (M := 131071) (I := 2) rfl rfl (by decide) (re_forcedL (M := 131071) (I := 1) rfl rfl (by decide) (re_forcedL (M := 131071) (I := 0) rfl rfl (by decide) (re_nil))))))))))))))))), ?_⟩
    refine d_nil ?_
    refine w_region ?_
    refine o_rd (r_move (by simp only [ev, envOf, val_set, ofValue, ofCell, ↓reduceIte, Nat.reduceEqDiff, v0, v2, v3, v4] <;> rfl)) rfl rfl ?_
    refine o_rd (r_addE (a := ((i : Nat) : Int)) (b := 1) (c := ((i + 1 : Nat) : Int)) (by simp only [ev, envOf, val_set, ofValue, ofCell, ↓reduceIte, Nat.reduceEqDiff, v0, v2, v3, v4] <;> rfl) (by simp only [ev, envOf, val_set, ofValue, ofCell, ↓reduceIte, Nat.reduceEqDiff, v0, v2, v3, v4] <;> rfl) (by omega) (by omega) (by omega)) rfl rfl ?_
    refine o_rd (r_assign (by simp only [ev, envOf, val_set, ofValue, ofCell, ↓reduceIte, Nat.reduceEqDiff, v0, v2, v3, v4] <;> rfl)) rfl rfl ?_
    refine o_nil ?_
    have hN1 := hf1 H6 _ hV2 fun c hc x hx => FQ.keep c x hx (by simp only [List.nodup_append, List.mem_append] at hnd hc ⊢; grind)
    have hN2 := hf2 H6 _ hW2 fun c hc x hx => FQ.keep c x hx (by simp only [List.nodup_append, List.mem_append] at hnd hc ⊢; grind)
    exact ⟨m - 1, by omega, _, H6, i + 1, _, rfl, (by simp only [val_set, ↓reduceIte, Nat.reduceEqDiff, v0, v2, v3, v4] <;> rfl), (by simp only [val_set, ↓reduceIte, Nat.reduceEqDiff, v0, v2, v3, v4] <;> rfl), (by simp only [val_set, ↓reduceIte, Nat.reduceEqDiff, v0, v2, v3, v4] <;> rfl), (by simp only [val_set, ↓reduceIte, Nat.reduceEqDiff, v0, v2, v3, v4] <;> rfl), W6, E6, A0, hN1, hN2, (hF.trans (FQ.mono (by intro c hc; simp only [List.mem_append] at hc ⊢; grind))), (by rw [List.length_set]; exact hMn), (by rw [V.cnts_set hiM (markV_cnt _ _)]; exact hcn), by omega⟩
  · have hc5 := dec_f hc5
    first | refine w_exit (blk_exit ?_) | refine w_exit (show (0 = 0 → _) ∧ (0 ≠ 0 → _) from ⟨fun _ => ?_, fun c => absurd rfl c⟩)
    refine w_seq ?_
    refine w_region ?_
    refine o_rd (r_move (by simp only [ev, envOf, val_set, ofValue, ofCell, ↓reduceIte, Nat.reduceEqDiff, v0, v2, v3, v4] <;> rfl)) rfl rfl ?_
    refine o_rd (r_move (by simp only [ev, envOf, val_set, ofValue, ofCell, ↓reduceIte, Nat.reduceEqDiff, v0, v2, v3, v4] <;> rfl)) rfl rfl ?_
    refine o_rd (r_move (by simp only [ev, envOf, val_set, ofValue, ofCell, ↓reduceIte, Nat.reduceEqDiff, v0, v2, v3, v4] <;> rfl)) rfl ((wanted_of (b := true) rfl rfl rfl (by simp only [val_set, ↓reduceIte, Nat.reduceEqDiff, v0, v2, v3, v4] <;> rfl)).trans rfl) ?_
    have FR7 : Fr (Fo ++ Fw) HS H4 := hF
    refine o_cl rfl rfl (by simp only [evs, ev, envOf, val_set, ofValue, ofCell, ↓reduceIte, Nat.reduceEqDiff, v0, v2, v3, v4] <;> rfl) rfl (holds_of ho W4 hMn A0 (Own.keep hO fun x hx _ => FR7.keep _ _ hx hbo) (Own.keep hW fun x hx _ => FR7.keep _ _ hx hbw) hM1.la hM2.la (by omega)) rfl ((wanted_of (b := true) rfl rfl rfl (by simp only [val_set, ↓reduceIte, Nat.reduceEqDiff, v0, v2, v3, v4] <;> rfl)).trans rfl) ?_; rintro _ H8 ⟨rfl, X8⟩
    have W8 := X8.wf; have E8 := E4.trans X8
    have A0 := X8.keep _ _ A0
    have n8 := X8.n
    refine o_rd (r_pick (t := true) (by simp only [ev, envOf, val_set, ofValue, ofCell, ↓reduceIte, Nat.reduceEqDiff, v0, v2, v3, v4] <;> rfl) (fun _ => (by simp only [ev, envOf, val_set, ofValue, ofCell, ↓reduceIte, Nat.reduceEqDiff, v0, v2, v3, v4] <;> rfl)) (fun h => by cases h)) rfl rfl ?_
    refine o_rd (r_assign (by simp only [ev, envOf, val_set, ofValue, ofCell, ↓reduceIte, Nat.reduceEqDiff, v0, v2, v3, v4] <;> rfl)) rfl rfl ?_
    refine o_nil ?_
    refine w_seq ?_
    refine w_region ?_
    replace hM1 := FL.ext hM1 X8; replace hM2 := FL.ext hM2 X8
    have EE := Ext.refl W8
    have FR10 : Fr (Fo ++ Fw) HS H8 := (FR7.ext X8)
    have hOA := (Own.keep hO fun x hx _ => FR10.keep _ _ hx hbo); have hWA := (Own.keep hW fun x hx _ => FR10.keep _ _ hx hbw)
    refine o_nw W8 (a_build0 Try.underlying50 Ty.csz22 Ty.zero22 rfl) rfl rfl rfl (by simp) ?_; intro H9 n9 W9 X9 A9
    have E9 := EE.trans X9
    have Oo0 : Own H9 22 1 (freshSl (H8.n) 0 0) 0 [] (H8.n) none := own_fresh (n := 0) (e := 1) A9 rfl
    have No0 : New H8 (H8.n) none := ⟨EE.n, fun f h => by cases h⟩
    have A0 := X9.keep _ _ A0
    refine o_rd (r_assign (by simp only [ev, envOf, val_set, ofValue, ofCell, ↓reduceIte, Nat.reduceEqDiff, v0, v2, v3, v4] <;> rfl)) rfl rfl ?_
    refine o_nil ?_
    refine w_seq ?_
    refine w_region ?_
    refine o_nw W9 (a_build0 Try.underlying50 Ty.csz22 Ty.zero22 rfl) rfl rfl rfl (by simp) ?_; intro H11 n11 W11 X11 A11
    have E11 := E9.trans X11
    have Ow0 : Own H11 22 1 (freshSl (H9.n) 0 0) 0 [] (H9.n) none := own_fresh (n := 0) (e := 1) A11 rfl
    have Nw0 : New H8 (H9.n) none := ⟨E9.n, fun f h => by cases h⟩
    have A0 := X11.keep _ _ A0
    refine o_rd (r_assign (by simp only [ev, envOf, val_set, ofValue, ofCell, ↓reduceIte, Nat.reduceEqDiff, v0, v2, v3, v4] <;> rfl)) rfl rfl ?_
    refine o_nil ?_
    refine w_seq ?_
    refine w_seq ?_
    refine w_region ?_
    refine o_rd (r_assign (by simp only [ev, envOf, val_set, ofValue, ofCell, ↓reduceIte, Nat.reduceEqDiff, v0, v2, v3, v4] <;> rfl)) rfl rfl ?_
    refine o_nil ?_
    refine w_block ?_
    refine w_loop (fun m s => ∃ (e : Env) (H : AH) (i : Nat) (q : Nat) (so : AV) (sw : AV) (cq : List AV) (cv : List AV) (bq : Nat) (bv : Nat) (fq : Option Nat) (fv : Option Nat) (Ls : List (List V)), s = ⟨e, H, []⟩ ∧ e.val 0 = .ptr (.mt (hb)) (0) ∧ e.val 2 = .bool (false) ∧ e.val 3 = .bool (true) ∧ e.val 5 = so ∧ e.val 6 = sw ∧ e.val 7 = .int .i64 (((i : Nat) : Int)) ∧ Wf H ∧ Ext H8 H ∧ H.at (hb) = some (.row [.sl (.mt bo) (oo) (nL) cpo, .sl (.mt bw) (ow) (nL) cpw] 41 false none) ∧ (Own H 22 1 so q cq bq fq) ∧ (Own H 22 1 sw q cv bv fv) ∧ (New H8 bq fq) ∧ (New H8 bv fv) ∧ (Apart bq fq bv fv) ∧ (Ls.length = q ∧ GL bq fq bv fv H Ls cq cv) ∧ (q + V.cnts (M.drop i) = V.cnts M) ∧ (hb ≠ bq ∧ hb ≠ bv) ∧ (i + m = nL)) (nL) ⟨_, H11, 0, 0, _, _, [], [], _, _, none, none, [], rfl, (by simp only [val_set, ↓reduceIte, Nat.reduceEqDiff, v0, v2, v3, v4] <;> rfl), (by simp only [val_set, ↓reduceIte, Nat.reduceEqDiff, v0, v2, v3, v4] <;> rfl), (by simp only [val_set, ↓reduceIte, Nat.reduceEqDiff, v0, v2, v3, v4] <;> rfl), (by simp only [val_set, ↓reduceIte, Nat.reduceEqDiff, v0, v2, v3, v4] <;> rfl), (by simp only [val_set, ↓reduceIte, Nat.reduceEqDiff, v0, v2, v3, v4] <;> rfl), (by simp only [val_set, ↓reduceIte, Nat.reduceEqDiff, v0, v2, v3, v4] <;> rfl), W11, E11, A0, (Oo0.ext X11), Ow0, No0, Nw0, ⟨by have := Oo0.lt W9; omega, .inl rfl⟩, ⟨rfl, fun H2 _ => ⟨.nil, .nil⟩⟩, (by simp), (by omega), by omega⟩ ?_
    intro m s hi
    obtain ⟨e, H12, i, q, so, sw, cq, cv, bq, bv, fq, fv, Ls, rfl, v0, v2, v3, v5, v6, v7, W12, E12, A0, hOq, hOv, hNq, hNv, hAp, hG, hq, hlo, him⟩ := hi
    have l12_0 := W12.lt A0
    have hEn := E12.n
    refine w_seq ?_
    refine w_seq ?_
    refine w_region ?_
    refine o_rd (r_move (by simp only [ev, envOf, val_set, ofValue, ofCell, ↓reduceIte, Nat.reduceEqDiff, v0, v2, v3, v5, v6, v7] <;> rfl)) rfl rfl ?_
    refine o_rd (r_move (by simp only [ev, envOf, val_set, ofValue, ofCell, ↓reduceIte, Nat.reduceEqDiff, v0, v2, v3, v5, v6, v7] <;> rfl)) rfl rfl ?_
    refine o_rd (r_nilCheck (by simp only [ev, envOf, val_set, ofValue, ofCell, ↓reduceIte, Nat.reduceEqDiff, v0, v2, v3, v5, v6, v7] <;> rfl)) rfl rfl ?_
    refine o_rd (r_fieldAddr Ty.fo41_0 (by simp only [ev, envOf, val_set, ofValue, ofCell, ↓reduceIte, Nat.reduceEqDiff, v0, v2, v3, v5, v6, v7] <;> rfl)) rfl rfl ?_
    refine o_rd (r_load1 (v := .sl (.mt bo) (oo) (nL) cpo) Ty.agg22 (by simp only [ev, envOf, val_set, ofValue, ofCell, ↓reduceIte, Nat.reduceEqDiff, v0, v2, v3, v5, v6, v7] <;> rfl) (read_mt A0 (Nat.le_of_ble_eq_true rfl))) rfl rfl ?_
    refine o_rd (r_len (n := nL) Try.underlying22 (by simp only [ev, envOf, val_set, ofValue, ofCell, ↓reduceIte, Nat.reduceEqDiff, v0, v2, v3, v5, v6, v7] <;> rfl) rfl) rfl rfl ?_
    refine o_rd (r_lt (a := ((i : Nat) : Int)) (b := ((nL : Nat) : Int)) (by simp only [ev, envOf, val_set, ofValue, ofCell, ↓reduceIte, Nat.reduceEqDiff, v0, v2, v3, v5, v6, v7] <;> rfl) (by simp only [ev, envOf, val_set, ofValue, ofCell, ↓reduceIte, Nat.reduceEqDiff, v0, v2, v3, v5, v6, v7] <;> rfl)) rfl rfl ?_
    refine o_nil ?_
    refine w_cond (by simp only [ev, envOf, val_set, ofValue, ofCell, ↓reduceIte, Nat.reduceEqDiff, v0, v2, v3, v5, v6, v7] <;> rfl) (fun hc13 => ?_) (fun hc13 => ?_)
    · have hc13 := dec_t hc13
      refine w_skip ?_
      refine w_seq ?_
      refine w_block ?_
      refine w_region ?_
      have hi1 : i < nL := by omega
      have hiM : i < M.length := by omega
      obtain ⟨p1, p2, p3, hbe1, hx1, hf1⟩ := FL.set (H' := AH.empty) hM1 hiM
      obtain ⟨k1, m1, l1, s1, he1, hli, ht1⟩ := hx1.inv
      have hr1 : H12.read (.mt bo) (oo + i * 3) 3 = some [.int .i64 k1, .int .i64 m1, s1] := by have := read_part (own_read (hOA.ext E12)).2.2 (o := i * 3) (m := 3) (by omega); rw [he1] at this; exact this
      rw [he1] at hx1
      have hcn2 : V.cnts (M.drop i) = (M[i]).cnt + V.cnts (M.drop (i + 1)) := by rw [List.drop_eq_getElem_cons hiM]; simp only [V.cnts]
      refine o_rd (r_move (by simp only [ev, envOf, val_set, ofValue, ofCell, ↓reduceIte, Nat.reduceEqDiff, v0, v2, v3, v5, v6, v7] <;> rfl)) rfl rfl ?_
      refine o_rd (r_nilCheck (by simp only [ev, envOf, val_set, ofValue, ofCell, ↓reduceIte, Nat.reduceEqDiff, v0, v2, v3, v5, v6, v7] <;> rfl)) rfl rfl ?_
      refine o_rd (r_fieldAddr Ty.fo41_0 (by simp only [ev, envOf, val_set, ofValue, ofCell, ↓reduceIte, Nat.reduceEqDiff, v0, v2, v3, v5, v6, v7] <;> rfl)) rfl rfl ?_
      refine o_rd (r_load1 (v := .sl (.mt bo) (oo) (nL) cpo) Ty.agg22 (by simp only [ev, envOf, val_set, ofValue, ofCell, ↓reduceIte, Nat.reduceEqDiff, v0, v2, v3, v5, v6, v7] <;> rfl) (read_mt A0 (Nat.le_of_ble_eq_true rfl))) rfl rfl ?_
      refine o_rd (r_move (by simp only [ev, envOf, val_set, ofValue, ofCell, ↓reduceIte, Nat.reduceEqDiff, v0, v2, v3, v5, v6, v7] <;> rfl)) rfl rfl ?_
      refine o_rd (r_indexAddr Try.underlying22 Ty.csz24 (by simp only [ev, envOf, val_set, ofValue, ofCell, ↓reduceIte, Nat.reduceEqDiff, v0, v2, v3, v5, v6, v7] <;> rfl) (by simp only [ev, envOf, val_set, ofValue, ofCell, ↓reduceIte, Nat.reduceEqDiff, v0, v2, v3, v5, v6, v7] <;> rfl) hi1) rfl rfl ?_
      refine o_rd (r_loadN Ty.agg24 Ty.csz24 (by simp only [ev, envOf, val_set, ofValue, ofCell, ↓reduceIte, Nat.reduceEqDiff, v0, v2, v3, v5, v6, v7] <;> rfl) hr1) rfl rfl ?_
      refine o_rd (r_move (by simp only [ev, envOf, val_set, ofValue, ofCell, ↓reduceIte, Nat.reduceEqDiff, v0, v2, v3, v5, v6, v7] <;> rfl)) rfl rfl ?_
      refine o_rd (r_mulW (a := 1000) (b := ((i : Nat) : Int)) (by simp only [ev, envOf, val_set, ofValue, ofCell, ↓reduceIte, Nat.reduceEqDiff, v0, v2, v3, v5, v6, v7] <;> rfl) (by simp only [ev, envOf, val_set, ofValue, ofCell, ↓reduceIte, Nat.reduceEqDiff, v0, v2, v3, v5, v6, v7] <;> rfl)) rfl rfl ?_
      refine o_rd (r_addW (a := wrapA .i64 (1000 * ((i : Nat) : Int))) (b := 1) (by simp only [ev, envOf, val_set, ofValue, ofCell, ↓reduceIte, Nat.reduceEqDiff, v0, v2, v3, v5, v6, v7] <;> rfl) (by simp only [ev, envOf, val_set, ofValue, ofCell, ↓reduceIte, Nat.reduceEqDiff, v0, v2, v3, v5, v6, v7] <;> rfl)) rfl rfl ?_
      refine o_rd (r_move (by simp only [ev, envOf, val_set, ofValue, ofCell, ↓reduceIte, Nat.reduceEqDiff, v0, v2, v3, v5, v6, v7] <;> rfl)) rfl rfl ?_
      refine o_rd (r_move (by simp only [ev, envOf, val_set, ofValue, ofCell, ↓reduceIte, Nat.reduceEqDiff, v0, v2, v3, v5, v6, v7] <;> rfl)) rfl rfl ?_
      refine o_cl rfl rfl (by simp only [evs, ev, envOf, val_set, ofValue, ofCell, ↓reduceIte, Nat.reduceEqDiff, v0, v2, v3, v5, v6, v7] <;> rfl) rfl (grow_fin ho W8 M[i] _ W12 E12 (wrapA .i64 (wrapA .i64 (1000 * ((i : Nat) : Int)) + 1)) _ _ hx1 so sw q cq cv bq bv fq fv Ls hOq hOv hNq hNv hAp hG (by omega)) rfl rfl ?_
      rintro _ H14 ⟨so2, sw2, co2, cw2, bo2, bw2, fo2, fw2, Ls2, rfl, hO2, hW2, hNo2, hNw2, hAp2, hG2, hK2, hn2o, hn2w, E14⟩
      have W14 := hK2.wf; have n14 := hK2.n
      have A0 := hK2.keep _ _ A0 (by omega) (.inl rfl) (by omega) (.inl rfl)
      refine o_rd (r_move (by simp only [ev, envOf, val_set, ofValue, ofCell, ↓reduceIte, Nat.reduceEqDiff, v0, v2, v3, v5, v6, v7] <;> rfl)) rfl rfl ?_
      refine o_rd (r_extract (by simp only [ev, envOf, val_set, ofValue, ofCell, ↓reduceIte, Nat.reduceEqDiff, v0, v2, v3, v5, v6, v7] <;> rfl) rfl) rfl rfl ?_
      refine o_rd (r_extract (by simp only [ev, envOf, val_set, ofValue, ofCell, ↓reduceIte, Nat.reduceEqDiff, v0, v2, v3, v5, v6, v7] <;> rfl) rfl) rfl rfl ?_
      refine o_rd (r_assign (by simp only [ev, envOf, val_set, ofValue, ofCell, ↓reduceIte, Nat.reduceEqDiff, v0, v2, v3, v5, v6, v7] <;> rfl)) rfl rfl ?_
      refine o_rd (r_assign (by simp only [ev, envOf, val_set, ofValue, ofCell, ↓reduceIte, Nat.reduceEqDiff, v0, v2, v3, v5, v6, v7] <;> rfl)) rfl rfl ?_
      refine o_nil ?_
      refine w_region ?_
      refine o_rd (r_move (by simp only [ev, envOf, val_set, ofValue, ofCell, ↓reduceIte, Nat.reduceEqDiff, v0, v2, v3, v5, v6, v7] <;> rfl)) rfl rfl ?_
      refine o_rd (r_addE (a := ((i : Nat) : Int)) (b := 1) (c := ((i + 1 : Nat) : Int)) (by simp only [ev, envOf, val_set, ofValue, ofCell, ↓reduceIte, Nat.reduceEqDiff, v0, v2, v3, v5, v6, v7] <;> rfl) (by simp only [ev, envOf, val_set, ofValue, ofCell, ↓reduceIte, Nat.reduceEqDiff, v0, v2, v3, v5, v6, v7] <;> rfl) (by omega) (by omega) (by omega)) rfl rfl ?_
      refine o_rd (r_assign (by simp only [ev, envOf, val_set, ofValue, ofCell, ↓reduceIte, Nat.reduceEqDiff, v0, v2, v3, v5, v6, v7] <;> rfl)) rfl rfl ?_
      refine o_nil ?_
      exact ⟨m - 1, by omega, _, H14, i + 1, _, so2, sw2, co2, cw2, bo2, bw2, fo2, fw2, Ls2, rfl, (by simp only [val_set, ↓reduceIte, Nat.reduceEqDiff, v0, v2, v3, v5, v6, v7] <;> rfl), (by simp only [val_set, ↓reduceIte, Nat.reduceEqDiff, v0, v2, v3, v5, v6, v7] <;> rfl), (by simp only [val_set, ↓reduceIte, Nat.reduceEqDiff, v0, v2, v3, v5, v6, v7] <;> rfl), (by simp only [val_set, ↓reduceIte, Nat.reduceEqDiff, v0, v2, v3, v5, v6, v7] <;> rfl), (by simp only [val_set, ↓reduceIte, Nat.reduceEqDiff, v0, v2, v3, v5, v6, v7] <;> rfl), (by simp only [val_set, ↓reduceIte, Nat.reduceEqDiff, v0, v2, v3, v5, v6, v7] <;> rfl), W14, E14, A0, hO2, hW2, hNo2, hNw2, hAp2, hG2, (by omega), (by have := hn2o.1; have := hn2w.1; omega), by omega⟩
    · have hc13 := dec_f hc13
      first | refine w_exit (blk_exit ?_) | refine w_exit (show (2 = 2 → _) ∧ (2 ≠ 2 → _) from ⟨fun _ => ?_, fun c => absurd rfl c⟩)
      refine w_seq ?_
      refine w_seq ?_
      refine w_region ?_
      refine o_rd (r_assign (by simp only [ev, envOf, val_set, ofValue, ofCell, ↓reduceIte, Nat.reduceEqDiff, v0, v2, v3, v5, v6, v7] <;> rfl)) rfl rfl ?_
      refine o_nil ?_
      refine w_block ?_
      obtain ⟨oq, cpq, rfl, hOq⟩ := own_open hOq
      obtain ⟨ov, cpv, rfl, hOv⟩ := own_open hOv
      have hqb : q ≤ 10000000 := by omega
      refine w_loop (fun m s => ∃ (e : Env) (H : AH) (i : Nat), s = ⟨e, H, []⟩ ∧ e.val 0 = .ptr (.mt (hb)) (0) ∧ e.val 2 = .bool (false) ∧ e.val 3 = .bool (true) ∧ e.val 5 = .sl (.mt bq) (oq) (q) cpq ∧ e.val 6 = .sl (.mt bv) (ov) (q) cpv ∧ e.val 8 = .int .i64 (((i : Nat) : Int)) ∧ Wf H ∧ Ext H8 H ∧ H.at (hb) = some (.row [.sl (.mt bo) (oo) (nL) cpo, .sl (.mt bw) (ow) (nL) cpw] 41 false none) ∧ (Ext H12 H) ∧ (i + m = q)) (q) ⟨_, H12, 0, rfl, (by simp only [val_set, ↓reduceIte, Nat.reduceEqDiff, v0, v2, v3, v5, v6, v7] <;> rfl), (by simp only [val_set, ↓reduceIte, Nat.reduceEqDiff, v0, v2, v3, v5, v6, v7] <;> rfl), (by simp only [val_set, ↓reduceIte, Nat.reduceEqDiff, v0, v2, v3, v5, v6, v7] <;> rfl), (by simp only [val_set, ↓reduceIte, Nat.reduceEqDiff, v0, v2, v3, v5, v6, v7] <;> rfl), (by simp only [val_set, ↓reduceIte, Nat.reduceEqDiff, v0, v2, v3, v5, v6, v7] <;> rfl), (by simp only [val_set, ↓reduceIte, Nat.reduceEqDiff, v0, v2, v3, v5, v6, v7] <;> rfl), W12, E12, A0, (Ext.refl W12), by omega⟩ ?_
      intro m s hi
      obtain ⟨e, H15, i, rfl, v0, v2, v3, v5, v6, v8, W15, E15, A0, EL, him⟩ := hi
      have l15_0 := W15.lt A0
      refine w_seq ?_
      refine w_seq ?_
      refine w_region ?_
      refine o_rd (r_move (by simp only [ev, envOf, val_set, ofValue, ofCell, ↓reduceIte, Nat.reduceEqDiff, v0, v2, v3, v5, v6, v8] <;> rfl)) rfl rfl ?_
      refine o_rd (r_move (by simp only [ev, envOf, val_set, ofValue, ofCell, ↓reduceIte, Nat.reduceEqDiff, v0, v2, v3, v5, v6, v8] <;> rfl)) rfl rfl ?_
      refine o_rd (r_len (n := q) Try.underlying50 (by simp only [ev, envOf, val_set, ofValue, ofCell, ↓reduceIte, Nat.reduceEqDiff, v0, v2, v3, v5, v6, v8] <;> rfl) rfl) rfl rfl ?_
      refine o_rd (r_lt (a := ((i : Nat) : Int)) (b := ((q : Nat) : Int)) (by simp only [ev, envOf, val_set, ofValue, ofCell, ↓reduceIte, Nat.reduceEqDiff, v0, v2, v3, v5, v6, v8] <;> rfl) (by simp only [ev, envOf, val_set, ofValue, ofCell, ↓reduceIte, Nat.reduceEqDiff, v0, v2, v3, v5, v6, v8] <;> rfl)) rfl rfl ?_
      refine o_nil ?_
      refine w_cond (by simp only [ev, envOf, val_set, ofValue, ofCell, ↓reduceIte, Nat.reduceEqDiff, v0, v2, v3, v5, v6, v8] <;> rfl) (fun hc16 => ?_) (fun hc16 => ?_)
      · have hc16 := dec_t hc16
        refine w_skip ?_
        refine w_seq ?_
        refine w_block ?_
        refine w_seq ?_
        refine w_draw (ms := [0, 0, 3, 7, 15, 0, 0, 96, 224, 480, 1023, 2047]) (ord := [0, 1, 2, 3, 4, 5, 6, 7, 8, 9, 10, 11]) (by kernel_rfl) (by kernel_rfl) (by kernel_rfl) ?_
        have hi1 : i < q := by omega
        obtain ⟨hG1, hG2⟩ := hG.2 _ (K2.ofExt EL)
        obtain ⟨s1, he1, hs1⟩ := hG1.get (i := i) (by omega)
        obtain ⟨s2, he2, hs2⟩ := hG2.get (i := i) (by omega)
        have hr1 := ownS_el (hOq.ext EL) hi1 he1
        have hr2 := ownS_el (hOv.ext EL) hi1 he2
        refine d_rd rfl (r_move (by simp only [ev, envOf, val_set, ofValue, ofCell, ↓reduceIte, Nat.reduceEqDiff, v0, v2, v3, v5, v6, v8] <;> rfl)) rfl rfl ?_
        refine d_rd rfl (r_move (by simp only [ev, envOf, val_set, ofValue, ofCell, ↓reduceIte, Nat.reduceEqDiff, v0, v2, v3, v5, v6, v8] <;> rfl)) rfl rfl ?_
        refine d_rd rfl (r_indexAddr Try.underlying50 Ty.csz22 (by simp only [ev, envOf, val_set, ofValue, ofCell, ↓reduceIte, Nat.reduceEqDiff, v0, v2, v3, v5, v6, v8] <;> rfl) (by simp only [ev, envOf, val_set, ofValue, ofCell, ↓reduceIte, Nat.reduceEqDiff, v0, v2, v3, v5, v6, v8] <;> rfl) hi1) rfl rfl ?_
        refine d_rd rfl (r_load1 Ty.agg22 (by simp only [ev, envOf, val_set, ofValue, ofCell, ↓reduceIte, Nat.reduceEqDiff, v0, v2, v3, v5, v6, v8] <;> rfl) hr1) rfl rfl ?_
        refine d_rd rfl (r_build (cs := [.int .i64 0, .int .i64 0, s1]) Ty.zero24 Ty.pl24 (by simp only [evParts, ev, envOf, val_set, ofValue, ofCell, ↓reduceIte, Nat.reduceEqDiff, v0, v2, v3, v5, v6, v8] <;> rfl) (fill3 hs1.cells)) rfl rfl ?_
        refine d_rd rfl (r_move (by simp only [ev, envOf, val_set, ofValue, ofCell, ↓reduceIte, Nat.reduceEqDiff, v0, v2, v3, v5, v6, v8] <;> rfl)) rfl rfl ?_
        refine d_rd rfl (r_move (by simp only [ev, envOf, val_set, ofValue, ofCell, ↓reduceIte, Nat.reduceEqDiff, v0, v2, v3, v5, v6, v8] <;> rfl)) rfl rfl ?_
        refine d_rd rfl (r_indexAddr Try.underlying50 Ty.csz22 (by simp only [ev, envOf, val_set, ofValue, ofCell, ↓reduceIte, Nat.reduceEqDiff, v0, v2, v3, v5, v6, v8] <;> rfl) (by simp only [ev, envOf, val_set, ofValue, ofCell, ↓reduceIte, Nat.reduceEqDiff, v0, v2, v3, v5, v6, v8] <;> rfl) hi1) rfl rfl ?_
        refine d_rd rfl (r_load1 Ty.agg22 (by simp only [ev, envOf, val_set, ofValue, ofCell, ↓reduceIte, Nat.reduceEqDiff, v0, v2, v3, v5, v6, v8] <;> rfl) hr2) rfl rfl ?_
        refine d_rd rfl (r_build (cs := [.int .i64 0, .int .i64 0, s2]) Ty.zero24 Ty.pl24 (by simp only [evParts, ev, envOf, val_set, ofValue, ofCell, ↓reduceIte, Nat.reduceEqDiff, v0, v2, v3, v5, v6, v8] <;> rfl) (fill3 hs2.cells)) rfl rfl ?_
        refine d_cl rfl rfl rfl (by simp only [evs, ev, envOf, val_set, ofValue, ofCell, ↓reduceIte, Nat.reduceEqDiff, v0, v2, v3, v5, v6, v8] <;> rfl) rfl (same_two ho (v := .mk 0 0 Ls[i]) W15 (.mk _ _ _ _ hs1) (.mk _ _ _ _ hs2)) rfl rfl ?_; rintro _ H17 ⟨rfl, X17⟩
        have W17 := X17.wf; have E17 := E15.trans X17
        have A0 := X17.keep _ _ A0
        have n17 := X17.n
        refine ⟨re_forcedL (M := 1023) (I := 9) rfl rfl (by decide) (re_forcedL (M := 1023) (I := 8) rfl rfl (by decide) (re_forcedL (M := 1023) (I := 7) rfl rfl (by decide) (re_forcedL (M := 1023) (I := 6) rfl rfl (by decide) (re_forcedL (M := 1023) (I := 5) rfl rfl (by decide) (re_forcedL (M := 1023) (I := 4) rfl rfl (by decide) (re_forcedL (M := 1023) (I := 3) rfl rfl (by decide) (re_forcedL (M := 1023) (I := 2) rfl rfl (by decide) (re_forcedL (M := 1023) (I := 1) rfl rfl (by decide) (re_forcedL (M := 1023) (I := 0) rfl rfl (by decide) (re_nil)))))))))), ?_⟩
        refine d_rd rfl (r_assign (by simp only [ev, envOf, val_set, ofValue, ofCell, ↓reduceIte, Nat.reduceEqDiff, v0, v2, v3, v5, v6, v8] <;> rfl)) rfl rfl ?_
        refine d_nil ?_
        refine w_region ?_
        refine o_rd (r_move (by simp only [ev, envOf, val_set, ofValue, ofCell, ↓reduceIte, Nat.reduceEqDiff, v0, v2, v3, v5, v6, v8] <;> rfl)) rfl rfl ?_
        refine o_rd (r_move (by simp only [ev, envOf, val_set, ofValue, ofCell, ↓reduceIte, Nat.reduceEqDiff, v0, v2, v3, v5, v6, v8] <;> rfl)) rfl rfl ?_
        refine o_rd (r_move (by simp only [ev, envOf, val_set, ofValue, ofCell, ↓reduceIte, Nat.reduceEqDiff, v0, v2, v3, v5, v6, v8] <;> rfl)) rfl ((wanted_of (b := true) rfl rfl rfl (by simp only [val_set, ↓reduceIte, Nat.reduceEqDiff, v0, v2, v3, v5, v6, v8] <;> rfl)).trans rfl) ?_
        refine o_rd (r_pick (t := true) (by simp only [ev, envOf, val_set, ofValue, ofCell, ↓reduceIte, Nat.reduceEqDiff, v0, v2, v3, v5, v6, v8] <;> rfl) (fun _ => (by simp only [ev, envOf, val_set, ofValue, ofCell, ↓reduceIte, Nat.reduceEqDiff, v0, v2, v3, v5, v6, v8] <;> rfl)) (fun h => by cases h)) rfl rfl ?_
        refine o_rd (r_assign (by simp only [ev, envOf, val_set, ofValue, ofCell, ↓reduceIte, Nat.reduceEqDiff, v0, v2, v3, v5, v6, v8] <;> rfl)) rfl rfl ?_
        refine o_nil ?_
        refine w_region ?_
        refine o_rd (r_move (by simp only [ev, envOf, val_set, ofValue, ofCell, ↓reduceIte, Nat.reduceEqDiff, v0, v2, v3, v5, v6, v8] <;> rfl)) rfl rfl ?_
        refine o_rd (r_addE (a := ((i : Nat) : Int)) (b := 1) (c := ((i + 1 : Nat) : Int)) (by simp only [ev, envOf, val_set, ofValue, ofCell, ↓reduceIte, Nat.reduceEqDiff, v0, v2, v3, v5, v6, v8] <;> rfl) (by simp only [ev, envOf, val_set, ofValue, ofCell, ↓reduceIte, Nat.reduceEqDiff, v0, v2, v3, v5, v6, v8] <;> rfl) (by omega) (by omega) (by omega)) rfl rfl ?_
        refine o_rd (r_assign (by simp only [ev, envOf, val_set, ofValue, ofCell, ↓reduceIte, Nat.reduceEqDiff, v0, v2, v3, v5, v6, v8] <;> rfl)) rfl rfl ?_
        refine o_nil ?_
        exact ⟨m - 1, by omega, _, H17, i + 1, rfl, (by simp only [val_set, ↓reduceIte, Nat.reduceEqDiff, v0, v2, v3, v5, v6, v8] <;> rfl), (by simp only [val_set, ↓reduceIte, Nat.reduceEqDiff, v0, v2, v3, v5, v6, v8] <;> rfl), (by simp only [val_set, ↓reduceIte, Nat.reduceEqDiff, v0, v2, v3, v5, v6, v8] <;> rfl), (by simp only [val_set, ↓reduceIte, Nat.reduceEqDiff, v0, v2, v3, v5, v6, v8] <;> rfl), (by simp only [val_set, ↓reduceIte, Nat.reduceEqDiff, v0, v2, v3, v5, v6, v8] <;> rfl), (by simp only [val_set, ↓reduceIte, Nat.reduceEqDiff, v0, v2, v3, v5, v6, v8] <;> rfl), W17, E17, A0, (EL.trans X17), by omega⟩
      · have hc16 := dec_f hc16
        first | refine w_exit (blk_exit ?_) | refine w_exit (show (4 = 4 → _) ∧ (4 ≠ 4 → _) from ⟨fun _ => ?_, fun c => absurd rfl c⟩)
        refine w_seq ?_
        refine w_region ?_
        refine o_rd (r_move (by simp only [ev, envOf, val_set, ofValue, ofCell, ↓reduceIte, Nat.reduceEqDiff, v0, v2, v3, v5, v6, v8] <;> rfl)) rfl rfl ?_
        refine o_rd (r_move (by simp only [ev, envOf, val_set, ofValue, ofCell, ↓reduceIte, Nat.reduceEqDiff, v0, v2, v3, v5, v6, v8] <;> rfl)) rfl rfl ?_
        have FZ : Fr (Fo ++ Fw) HS H15 := FR10.ext E15
        refine o_rd (r_move (by simp only [ev, envOf, val_set, ofValue, ofCell, ↓reduceIte, Nat.reduceEqDiff, v0, v2, v3, v5, v6, v8] <;> rfl)) rfl ((wanted_of (b := true) rfl rfl rfl (by simp only [val_set, ↓reduceIte, Nat.reduceEqDiff, v0, v2, v3, v5, v6, v8] <;> rfl)).trans rfl) ?_
        refine o_cl rfl rfl (by simp only [evs, ev, envOf, val_set, ofValue, ofCell, ↓reduceIte, Nat.reduceEqDiff, v0, v2, v3, v5, v6, v8] <;> rfl) rfl (holds_of ho W15 hMn A0 (Own.keep hO fun x hx _ => FZ.keep _ _ hx hbo) (Own.keep hW fun x hx _ => FZ.keep _ _ hx hbw) (hM1.la.ext E15) (hM2.la.ext E15) (by omega)) rfl ((wanted_of (b := true) rfl rfl rfl (by simp only [val_set, ↓reduceIte, Nat.reduceEqDiff, v0, v2, v3, v5, v6, v8] <;> rfl)).trans rfl) ?_; rintro _ H18 ⟨rfl, X18⟩
        have W18 := X18.wf; have E18 := E15.trans X18
        have A0 := X18.keep _ _ A0
        have n18 := X18.n
        refine o_rd (r_pick (t := true) (by simp only [ev, envOf, val_set, ofValue, ofCell, ↓reduceIte, Nat.reduceEqDiff, v0, v2, v3, v5, v6, v8] <;> rfl) (fun _ => (by simp only [ev, envOf, val_set, ofValue, ofCell, ↓reduceIte, Nat.reduceEqDiff, v0, v2, v3, v5, v6, v8] <;> rfl)) (fun h => by cases h)) rfl rfl ?_
        refine o_rd (r_assign (by simp only [ev, envOf, val_set, ofValue, ofCell, ↓reduceIte, Nat.reduceEqDiff, v0, v2, v3, v5, v6, v8] <;> rfl)) rfl rfl ?_
        refine o_nil ?_
        refine w_ret ⟨.inr rfl, rfl, .bool (true), (show resultA Try.prog [.tmp 2] _ = _ by simp only [resultA, resultsA, envOf, val_set, ↓reduceIte, Nat.reduceEqDiff, Option.map_some, v0, v2, v3, v5, v6, v8] <;> rfl), ?_⟩
        try dsimp only
        exact ⟨rfl, FZ.ext X18, E8.trans E18⟩
end Go.Proofs.Ytenfjdkeikjhlaa.Vs
