/-
  mark: a mark in each place of each list of a value, and of what it must read as.
-/
import Derived.Test.YtenfjdkeikjhlaaFootT
set_option autoImplicit false
set_option linter.unusedVariables false
set_option linter.unusedSimpArgs false
namespace Go.VI
def mkC (n : Int) (i : Nat) : Int := wrapA .i64 (wrapA .i64 (n + (i : Int)) + 1)
def mkN (n : Int) (i : Nat) : Int := wrapA .i64 (wrapA .i64 (0 - n) - (i : Int))
mutual
def markV (n : Int) : V → V
  | .mk k m l => .mk k m (markL n 0 l)
def markL (n : Int) (i : Nat) : List V → List V
  | [] => []
  | x :: r => .mk 50 (mkN n i) (markV (mkC n i) x).l :: markL n (i + 1) r
end
theorem markL_len : ∀ (l : List V) (n : Int) (i : Nat), (markL n i l).length = l.length
  | [], _, _ => by simp [markL]
  | x :: r, n, i => by simp [markL, markL_len r]
theorem markL_get : ∀ (l : List V) (n : Int) (i j : Nat) (h : j < l.length), (markL n i l)[j]'(by rw [markL_len]; exact h) = .mk 50 (mkN n (i + j)) (markV (mkC n (i + j)) l[j]).l
  | x :: r, n, i, 0, h => by simp [markL]
  | x :: r, n, i, j + 1, h => by simp only [markL, List.getElem_cons_succ]; rw [markL_get r n (i + 1) j (by simpa using h), show i + 1 + j = i + (j + 1) by omega]
mutual
theorem markV_cnt (n : Int) : ∀ v : V, (markV n v).cnt = v.cnt
  | .mk k m l => by simp only [markV, V.cnt, markL_cnts n 0 l]
theorem markL_cnts (n : Int) (i : Nat) : ∀ l : List V, V.cnts (markL n i l) = V.cnts l
  | [] => by simp [markL]
  | .mk k m l :: r => by simp only [markL, V.cnts, V.cnt, markV, V.l, markL_cnts (mkC n i) 0 l, markL_cnts n (i + 1) r]
end
def mix (n : Int) (i : Nat) (l : List V) : List V := (markL n 0 l).take i ++ l.drop i
theorem mix_len {n : Int} {i : Nat} {l : List V} : (mix n i l).length = l.length := by simp only [mix, List.length_append, List.length_take, List.length_drop, markL_len]; omega
theorem mix_zero {n : Int} {l : List V} : mix n 0 l = l := by simp [mix]
theorem mix_all {n : Int} {l : List V} : mix n l.length l = markL n 0 l := by simp only [mix, List.drop_length, List.append_nil]; rw [List.take_of_length_le (by rw [markL_len]; exact Nat.le_refl _)]
theorem mix_get {n : Int} {i : Nat} {l : List V} (h : i < l.length) : (mix n i l)[i]'(by rw [mix_len]; exact h) = l[i] := by
  have hl : ((markL n 0 l).take i).length = i := by simp [markL_len]; omega
  simp only [mix]
  rw [List.getElem_append_right (by omega)]
  simp [hl]
theorem mix_set {n : Int} {i : Nat} {l : List V} (h : i < l.length) : (mix n i l).set i (.mk 50 (mkN n i) (markV (mkC n i) l[i]).l) = mix n (i + 1) l := by
  have hl : ((markL n 0 l).take i).length = i := by simp [markL_len]; omega
  have hm : i < (markL n 0 l).length := by rw [markL_len]; exact h
  have hg := markL_get l n 0 i h
  rw [Nat.zero_add] at hg
  simp only [mix]
  rw [List.drop_eq_getElem_cons h, List.set_append_right _ _ (by omega), hl, Nat.sub_self, List.set_cons_zero, List.take_succ_eq_append_getElem hm, hg, List.append_assoc, List.singleton_append]
theorem Fr.ofExt {X : List Nat} {H H' : AH} (E : Ext H H') : Fr X H H' := ⟨E.n, E.wf, fun c x h _ => E.keep c x h⟩
theorem Fr.trans {X : List Nat} {H H1 H2 : AH} (F : Fr X H H1) (G : Fr X H1 H2) : Fr X H H2 := ⟨Nat.le_trans F.n G.n, G.wf, fun c x h hc => G.keep c x (F.keep c x h hc) hc⟩
theorem Fr.mono {X Y : List Nat} {H H1 : AH} (F : Fr X H H1) (h : ∀ c ∈ X, c ∈ Y) : Fr Y H H1 := ⟨F.n, F.wf, fun c x e hc => F.keep c x e fun hx => hc (h c hx)⟩
theorem Fr.put {X : List Nat} {b : Nat} {H H1 H2 : AH} (F : Fr X H H1) (K : Keeps H1 H2 b none) (hn : H2.n = H1.n) (W : Wf H2) (hb : b ∈ X) : Fr X H H2 := ⟨by have := F.n; omega, W, fun c x h hc => K.own (F.keep c x h hc) fun e => hc (e ▸ hb)⟩
theorem Fr.ext {X : List Nat} {H H1 H2 : AH} (F : Fr X H H1) (E : Ext H1 H2) : Fr X H H2 := ⟨Nat.le_trans F.n E.n, E.wf, fun c x h hc => E.keep c x (F.keep c x h hc)⟩
theorem FT.inv {H : AH} {e : Nat} {bs : List Nat} {v : V} {a : List AV} (h : FT H e bs v a) : ∃ k n l s, a = [.int .i64 k, .int .i64 n, s] ∧ v = .mk k n l ∧ FSl H e bs l s := by
  cases h with | mk _ k n l s h => exact ⟨k, n, l, s, rfl, rfl, h⟩
/-- a place of a list's element is written -/
theorem put_place {c1 c2 : List AV} {a b c x : AV} {off i : Nat} (h : c1.length = i * 3) (j : Nat) (hj : j < 3) (ho : off = i * 3 + j) :
    splice (c1 ++ ([a, b, c] ++ c2)) off [x] = c1 ++ (([a, b, c].set j x) ++ c2) := by
  subst ho
  rcases j with _ | _ | _ | j
  · exact splice_mid (c1 := c1) (a := [a]) (a' := [x]) (c2 := [b, c] ++ c2) (by omega) rfl
  · have := splice_mid (c1 := c1 ++ [a]) (a := [b]) (a' := [x]) (c2 := [c] ++ c2) (off := i * 3 + 1) (by simp [h]) rfl
    simpa [List.append_assoc] using this
  · have := splice_mid (c1 := c1 ++ [a, b]) (a := [c]) (a' := [x]) (c2 := c2) (off := i * 3 + 2) (by simp [h]) rfl
    simpa [List.append_assoc] using this
  · omega
end Go.VI
namespace Go.Proofs.Ytenfjdkeikjhlaa.Vs
open Go.VI Go.Proofs
variable {orc : CallF}
set_option maxRecDepth 100000 in
set_option maxHeartbeats 4000000 in
theorem mark_step (ho : NoOrcBut [9, 35, 36] orc) {H0 HS : AH} (W0 : Wf H0) (WS : Wf HS) (ES : Ext H0 HS) {e1 e2 : Nat} (n ka ma : Int) (l : List V) (s1 s2 : AV) (bv bw : List Nat) (hv : FT HS e1 bv (.mk ka ma l) [.int .i64 ka, .int .i64 ma, s1]) (hw : FT HS e2 bw (.mk ka ma l) [.int .i64 ka, .int .i64 ma, s2]) (hnd : (bv ++ bw).Nodup) (hbr : ∀ c ∈ bv ++ bw, H0.n ≤ c ∧ c < HS.n) (ih : ∀ x ∈ l, ∀ (H : AH), Wf H → Ext H0 H → ∀ (n : Int) (bv bw : List Nat) (a1 a2 : List AV), FT H e1 bv x a1 → FT H e2 bw x a2 → (bv ++ bw).Nodup → (∀ c ∈ bv ++ bw, H0.n ≤ c ∧ c < H.n) → Fin Try.prog orc 48 [.agg a1, .agg a2, .int .i64 n] H (fun r H' => r = .tup [] ∧ FT H' e1 bv (markV n x) a1 ∧ FT H' e2 bw (markV n x) a2 ∧ Fr (bv ++ bw) H H' ∧ Ext H0 H')) : Fin Try.prog orc 48 [.agg [.int .i64 (ka), .int .i64 (ma), s1], .agg [.int .i64 (ka), .int .i64 (ma), s2], .int .i64 (n)] HS (fun r H' => r = .tup [] ∧ FT H' e1 bv (markV n (.mk ka ma l)) [.int .i64 ka, .int .i64 ma, s1] ∧ FT H' e2 bw (markV n (.mk ka ma l)) [.int .i64 ka, .int .i64 ma, s2] ∧ Fr (bv ++ bw) HS H' ∧ Ext H0 H') := by
  have E0 := ES
  have hbd : l.length ≤ 4611686018427387904 := (by cases hv with | mk _ _ _ _ _ h => exact h.sa.bound); have hl1 : lenOf s1 = some l.length := by cases hv with | mk _ _ _ _ _ h => exact h.sa.lenOf
  refine fin_of Try.func48 rfl (by rw [Try.ntmps48]; simp) (ho _ rfl _ _) ?_
  rw [Try.ntmps48]
  refine w_seq ?_
  refine w_region ?_
  refine o_nw WS (a_box (by simp only [ev, envOf, val_set, ofValue, ofCell, ↓reduceIte, Nat.reduceEqDiff] <;> rfl)) rfl rfl rfl (by simp) ?_; intro H1 n1 W1 X1 A1
  have A1 : H1.at HS.n = some (.row [.int .i64 (ka), .int .i64 (ma), s1] 24 false none) := A1
  have E1 := E0.trans X1
  have g1 : H0.n ≤ HS.n := E0.n
  refine o_nw W1 (a_box (by simp only [ev, envOf, val_set, ofValue, ofCell, ↓reduceIte, Nat.reduceEqDiff] <;> rfl)) rfl rfl rfl (by simp) ?_; intro H2 n2 W2 X2 A2
  have A2 : H2.at H1.n = some (.row [.int .i64 (ka), .int .i64 (ma), s2] 24 false none) := A2
  have E2 := E1.trans X2
  have g2 : H0.n ≤ H1.n := E1.n
  have A1 := X2.keep _ _ A1
  refine o_nil ?_
  refine w_seq ?_
  refine w_region ?_
  refine o_rd (r_assign (by simp only [ev, envOf, val_set, ofValue, ofCell, ↓reduceIte, Nat.reduceEqDiff] <;> rfl)) rfl rfl ?_
  refine o_nil ?_
  refine w_block ?_
  refine w_loop (fun m s => ∃ (e : Env) (H : AH) (i : Nat), s = ⟨e, H, []⟩ ∧ e.val 2 = .int .i64 (n) ∧ e.val 3 = .ptr (.mt (HS.n)) (0) ∧ e.val 4 = .ptr (.mt (H1.n)) (0) ∧ e.val 6 = .int .i64 (((i : Nat) : Int)) ∧ Wf H ∧ Ext H0 H ∧ H.at (HS.n) = some (.row [.int .i64 (ka), .int .i64 (ma), s1] 24 false none) ∧ H.at (H1.n) = some (.row [.int .i64 (ka), .int .i64 (ma), s2] 24 false none) ∧ (FT H e1 bv (.mk ka ma (mix n i l)) [.int .i64 ka, .int .i64 ma, s1]) ∧ (FT H e2 bw (.mk ka ma (mix n i l)) [.int .i64 ka, .int .i64 ma, s2]) ∧ (Fr (bv ++ bw) HS H) ∧ (i + m = l.length)) (l.length) ⟨_, H2, 0, rfl, (by simp only [val_set, ↓reduceIte, Nat.reduceEqDiff] <;> rfl), (by simp only [val_set, ↓reduceIte, Nat.reduceEqDiff] <;> rfl), (by simp only [val_set, ↓reduceIte, Nat.reduceEqDiff] <;> rfl), (by simp only [val_set, ↓reduceIte, Nat.reduceEqDiff] <;> rfl), W2, E2, A1, A2, (by rw [mix_zero]; exact hv.ext (X1.trans X2)), (by rw [mix_zero]; exact hw.ext (X1.trans X2)), (Fr.ofExt (X1.trans X2)), by omega⟩ ?_
  intro m s hi
  obtain ⟨e, H3, i, rfl, v2, v3, v4, v6, W3, E3, A1, A2, hV, hW, hF, him⟩ := hi
  have l3_0 := W3.lt A1
  have l3_1 := W3.lt A2
  have hFn := hF.n
  refine w_seq ?_
  refine w_seq ?_
  refine w_region ?_
  refine o_rd (r_move (by simp only [ev, envOf, val_set, ofValue, ofCell, ↓reduceIte, Nat.reduceEqDiff, v2, v3, v4, v6] <;> rfl)) rfl rfl ?_
  refine o_rd (r_fieldAddr Ty.fo24_2 (by simp only [ev, envOf, val_set, ofValue, ofCell, ↓reduceIte, Nat.reduceEqDiff, v2, v3, v4, v6] <;> rfl)) rfl rfl ?_
  refine o_rd (r_load1 (v := s1) Ty.agg22 (by simp only [ev, envOf, val_set, ofValue, ofCell, ↓reduceIte, Nat.reduceEqDiff, v2, v3, v4, v6] <;> rfl) (read_mt A1 (Nat.le_of_ble_eq_true rfl))) rfl rfl ?_
  refine o_rd (r_len (n := l.length) Try.underlying22 (by simp only [ev, envOf, val_set, ofValue, ofCell, ↓reduceIte, Nat.reduceEqDiff, v2, v3, v4, v6] <;> rfl) hl1) rfl rfl ?_
  refine o_rd (r_lt (a := ((i : Nat) : Int)) (b := ((l.length : Nat) : Int)) (by simp only [ev, envOf, val_set, ofValue, ofCell, ↓reduceIte, Nat.reduceEqDiff, v2, v3, v4, v6] <;> rfl) (by simp only [ev, envOf, val_set, ofValue, ofCell, ↓reduceIte, Nat.reduceEqDiff, v2, v3, v4, v6] <;> rfl)) rfl rfl ?_
  refine o_nil ?_
  refine w_cond (by simp only [ev, envOf, val_set, ofValue, ofCell, ↓reduceIte, Nat.reduceEqDiff, v2, v3, v4, v6] <;> rfl) (fun hc4 => ?_) (fun hc4 => ?_)
  · have hc4 := dec_t hc4
    refine w_skip ?_
    refine w_seq ?_
    refine w_block ?_
    refine w_seq ?_
    refine w_draw (ms := [0, 1, 0, 7, 15, 0, 32, 0, 224, 480, 0, 0, 3072, 7168, 16383]) (ord := [0, 1, 2, 3, 4, 5, 6, 7, 8, 9, 10, 11, 12, 13, 14]) (by kernel_rfl) (by kernel_rfl) (by kernel_rfl) ?_
    have hi1 : i < l.length := by omega
    have hix : i < (mix n i l).length := by rw [mix_len]; exact hi1
    have hVc := hV
    obtain ⟨_, _, _, _, ea, ev, hs1⟩ := hVc.inv
    injection ea with ea1 ea2; injection ea2 with ea2 ea3; injection ea3 with ea3 ea4; subst ea3; injection ev with ev1 ev2 ev3; subst ev3; clear ea1 ea2 ea4 ev1 ev2
    obtain ⟨b1, p1, p2, p3, c11, a1, c12, hse1, hbe1, hb1, hc1, hx1, ha1, hf1⟩ := hs1.focus hix
    rw [mix_len] at hse1
    subst hse1; subst hbe1
    rw [mix_get hi1] at hx1
    have hWc := hW
    obtain ⟨_, _, _, _, ea, ev, hs2⟩ := hWc.inv
    injection ea with ea1 ea2; injection ea2 with ea2 ea3; injection ea3 with ea3 ea4; subst ea3; injection ev with ev1 ev2 ev3; subst ev3; clear ea1 ea2 ea4 ev1 ev2
    obtain ⟨b2, w1, w2, w3, c21, a2, c22, hse2, hbe2, hb2, hc2, hx2, ha2, hf2⟩ := hs2.focus hix
    rw [mix_len] at hse2
    subst hse2; subst hbe2
    rw [mix_get hi1] at hx2
    obtain ⟨k1, m1, l1, t1, rfl, hli, ht1⟩ := hx1.inv
    obtain ⟨k2, m2, l2, t2, rfl, hli2, ht2⟩ := hx2.inv
    obtain ⟨rfl, rfl, rfl⟩ : k1 = k2 ∧ m1 = m2 ∧ l1 = l2 := by rw [hli] at hli2; injection hli2 with q1 q2 q3; exact ⟨q1, q2, q3⟩
    have hb1r := (hbr b1 (by simp)); have hb2r := (hbr b2 (by simp))
    have hb12 : b1 ≠ b2 := by intro e; subst e; simp [List.nodup_append, List.nodup_cons] at hnd
    have hr1 : H3.read (.mt b1) (0 + i * 3) 3 = some [.int .i64 k1, .int .i64 m1, t1] := by rw [read_mt hb1 (by simp [hc1] <;> omega), Nat.zero_add, ← hc1, List.drop_left, List.take_append_of_le_length (by simp), List.take_of_length_le (by simp)]
    have hr2 : H3.read (.mt b2) (0 + i * 3) 3 = some [.int .i64 k1, .int .i64 m1, t2] := by rw [read_mt hb2 (by simp [hc2] <;> omega), Nat.zero_add, ← hc2, List.drop_left, List.take_append_of_le_length (by simp), List.take_of_length_le (by simp)]
    refine d_rd rfl (r_fieldAddr Ty.fo24_2 (by simp only [ev, envOf, val_set, ofValue, ofCell, ↓reduceIte, Nat.reduceEqDiff, v2, v3, v4, v6] <;> rfl)) rfl rfl ?_
    refine d_rd rfl (r_load1 (v := .sl (.mt b1) (0) (l.length) (l.length + e1)) Ty.agg22 (by simp only [ev, envOf, val_set, ofValue, ofCell, ↓reduceIte, Nat.reduceEqDiff, v2, v3, v4, v6] <;> rfl) (read_mt A1 (Nat.le_of_ble_eq_true rfl))) rfl rfl ?_
    refine d_rd rfl (r_move (by simp only [ev, envOf, val_set, ofValue, ofCell, ↓reduceIte, Nat.reduceEqDiff, v2, v3, v4, v6] <;> rfl)) rfl rfl ?_
    refine d_rd rfl (r_indexAddr Try.underlying22 Ty.csz24 (by simp only [ev, envOf, val_set, ofValue, ofCell, ↓reduceIte, Nat.reduceEqDiff, v2, v3, v4, v6] <;> rfl) (by simp only [ev, envOf, val_set, ofValue, ofCell, ↓reduceIte, Nat.reduceEqDiff, v2, v3, v4, v6] <;> rfl) hi1) rfl rfl ?_
    refine d_rd rfl (r_loadN Ty.agg24 Ty.csz24 (by simp only [ev, envOf, val_set, ofValue, ofCell, ↓reduceIte, Nat.reduceEqDiff, v2, v3, v4, v6] <;> rfl) hr1) rfl rfl ?_
    refine d_rd rfl (r_fieldAddr Ty.fo24_2 (by simp only [ev, envOf, val_set, ofValue, ofCell, ↓reduceIte, Nat.reduceEqDiff, v2, v3, v4, v6] <;> rfl)) rfl rfl ?_
    refine d_rd rfl (r_load1 (v := .sl (.mt b2) (0) (l.length) (l.length + e2)) Ty.agg22 (by simp only [ev, envOf, val_set, ofValue, ofCell, ↓reduceIte, Nat.reduceEqDiff, v2, v3, v4, v6] <;> rfl) (read_mt A2 (Nat.le_of_ble_eq_true rfl))) rfl rfl ?_
    refine d_rd rfl (r_move (by simp only [ev, envOf, val_set, ofValue, ofCell, ↓reduceIte, Nat.reduceEqDiff, v2, v3, v4, v6] <;> rfl)) rfl rfl ?_
    refine d_rd rfl (r_indexAddr Try.underlying22 Ty.csz24 (by simp only [ev, envOf, val_set, ofValue, ofCell, ↓reduceIte, Nat.reduceEqDiff, v2, v3, v4, v6] <;> rfl) (by simp only [ev, envOf, val_set, ofValue, ofCell, ↓reduceIte, Nat.reduceEqDiff, v2, v3, v4, v6] <;> rfl) hi1) rfl rfl ?_
    refine d_rd rfl (r_loadN Ty.agg24 Ty.csz24 (by simp only [ev, envOf, val_set, ofValue, ofCell, ↓reduceIte, Nat.reduceEqDiff, v2, v3, v4, v6] <;> rfl) hr2) rfl rfl ?_
    refine d_rd rfl (r_move (by simp only [ev, envOf, val_set, ofValue, ofCell, ↓reduceIte, Nat.reduceEqDiff, v2, v3, v4, v6] <;> rfl)) rfl rfl ?_
    refine d_rd rfl (r_move (by simp only [ev, envOf, val_set, ofValue, ofCell, ↓reduceIte, Nat.reduceEqDiff, v2, v3, v4, v6] <;> rfl)) rfl rfl ?_
    refine d_rd rfl (r_addW (a := n) (b := ((i : Nat) : Int)) (by simp only [ev, envOf, val_set, ofValue, ofCell, ↓reduceIte, Nat.reduceEqDiff, v2, v3, v4, v6] <;> rfl) (by simp only [ev, envOf, val_set, ofValue, ofCell, ↓reduceIte, Nat.reduceEqDiff, v2, v3, v4, v6] <;> rfl)) rfl rfl ?_
    refine d_rd rfl (r_addW (a := wrapA .i64 (n + ((i : Nat) : Int))) (b := 1) (by simp only [ev, envOf, val_set, ofValue, ofCell, ↓reduceIte, Nat.reduceEqDiff, v2, v3, v4, v6] <;> rfl) (by simp only [ev, envOf, val_set, ofValue, ofCell, ↓reduceIte, Nat.reduceEqDiff, v2, v3, v4, v6] <;> rfl)) rfl rfl ?_
    refine d_cl rfl rfl rfl (by simp only [evs, ev, envOf, val_set, ofValue, ofCell, ↓reduceIte, Nat.reduceEqDiff, v2, v3, v4, v6] <;> rfl) rfl (ih l[i] (List.getElem_mem hi1) _ W3 E3 (mkC n i) p2 w2 _ _ hx1 hx2 (by simp only [List.nodup_append, List.nodup_cons, List.mem_append, List.mem_cons] at hnd ⊢; grind) (fun c hc => by have := hbr c (by simp only [List.mem_append, List.mem_cons] at hc ⊢; grind); have hFn := hF.n; omega)) rfl rfl ?_
    rintro _ H5 ⟨rfl, hV2, hW2, FR, E5⟩
    have W5 := FR.wf; have n5 := FR.n
    have A1 := FR.keep _ _ A1 (fun hc => by have := hbr (HS.n) (by simp only [List.mem_append, List.mem_cons] at hc ⊢; grind); omega)
    have A2 := FR.keep _ _ A2 (fun hc => by have := hbr (H1.n) (by simp only [List.mem_append, List.mem_cons] at hc ⊢; grind); omega)
    have hb1 := FR.keep _ _ hb1 (by simp only [List.nodup_append, List.nodup_cons, List.mem_append, List.mem_cons] at hnd ⊢; grind)
    have hb2 := FR.keep _ _ hb2 (by simp only [List.nodup_append, List.nodup_cons, List.mem_append, List.mem_cons] at hnd ⊢; grind)
    refine ⟨re_forcedL (M := 16383) (I := 13) rfl rfl (by decide) (re_forcedL (M := 16383) (I := 12) rfl rfl (by decide) (re_forcedL (M := 16383) (I := 11) rfl rfl (by decide) (re_forcedL (M := 16383) (I := 10) rfl rfl (by decide) (re_forcedL (M := 16383) (I := 9) rfl rfl (by decide) (re_forcedL (M := 16383) (I := 8) rfl rfl (by decide) (re_forcedL (M := 16383) (I := 7) rfl rfl (by decide) (re_forcedL (M := 16383) (I := 6) rfl rfl (by decide) (re_forcedL (M := 16383) (I := 5) rfl rfl (by decide) (re_forcedL (M := 16383) (I := 4) rfl rfl (by decide) (re_forcedL (M := 16383) (I := 3) rfl rfl (by decide) (re_forcedL (M := 16383) (I := 2) rfl rfl (by decide) (re_forcedL (M := 16383) (I := 1) rfl rfl (by decide) (re_forcedL (M := 16383) (I := 0) rfl rfl (by decide) (re_nil)))))))))))))), ?_⟩
    refine d_nil ?_
    refine w_seq ?_
    refine w_region ?_
    refine o_rd (r_fieldAddr Ty.fo24_2 (by simp only [ev, envOf, val_set, ofValue, ofCell, ↓reduceIte, Nat.reduceEqDiff, v2, v3, v4, v6] <;> rfl)) rfl rfl ?_
    refine o_rd (r_load1 (v := .sl (.mt b1) (0) (l.length) (l.length + e1)) Ty.agg22 (by simp only [ev, envOf, val_set, ofValue, ofCell, ↓reduceIte, Nat.reduceEqDiff, v2, v3, v4, v6] <;> rfl) (read_mt A1 (Nat.le_of_ble_eq_true rfl))) rfl rfl ?_
    refine o_rd (r_move (by simp only [ev, envOf, val_set, ofValue, ofCell, ↓reduceIte, Nat.reduceEqDiff, v2, v3, v4, v6] <;> rfl)) rfl rfl ?_
    refine o_rd (r_move (by simp only [ev, envOf, val_set, ofValue, ofCell, ↓reduceIte, Nat.reduceEqDiff, v2, v3, v4, v6] <;> rfl)) rfl rfl ?_
    refine o_rd (r_negW (a := n) (by simp only [ev, envOf, val_set, ofValue, ofCell, ↓reduceIte, Nat.reduceEqDiff, v2, v3, v4, v6] <;> rfl)) rfl rfl ?_
    refine o_rd (r_move (by simp only [ev, envOf, val_set, ofValue, ofCell, ↓reduceIte, Nat.reduceEqDiff, v2, v3, v4, v6] <;> rfl)) rfl rfl ?_
    refine o_rd (r_subW (a := wrapA .i64 (0 - n)) (b := ((i : Nat) : Int)) (by simp only [ev, envOf, val_set, ofValue, ofCell, ↓reduceIte, Nat.reduceEqDiff, v2, v3, v4, v6] <;> rfl) (by simp only [ev, envOf, val_set, ofValue, ofCell, ↓reduceIte, Nat.reduceEqDiff, v2, v3, v4, v6] <;> rfl)) rfl rfl ?_
    refine o_rd (r_indexAddr Try.underlying22 Ty.csz24 (by simp only [ev, envOf, val_set, ofValue, ofCell, ↓reduceIte, Nat.reduceEqDiff, v2, v3, v4, v6] <;> rfl) (by simp only [ev, envOf, val_set, ofValue, ofCell, ↓reduceIte, Nat.reduceEqDiff, v2, v3, v4, v6] <;> rfl) hi1) rfl rfl ?_
    refine o_rd (r_fieldAddr Ty.fo24_1 (by simp only [ev, envOf, val_set, ofValue, ofCell, ↓reduceIte, Nat.reduceEqDiff, v2, v3, v4, v6] <;> rfl)) rfl rfl ?_
    refine o_st W5 (by simp only [ev, envOf, val_set, ofValue, ofCell, ↓reduceIte, Nat.reduceEqDiff, v2, v3, v4, v6] <;> rfl) (by simp only [ev, envOf, val_set, ofValue, ofCell, ↓reduceIte, Nat.reduceEqDiff, v2, v3, v4, v6] <;> rfl) hb1 Ty.csz3 rfl (by simp [hc1] <;> omega) rfl rfl rfl ?_; intro H6 n6 W6 A6 K6
    have A6 : H6.at (b1) = some (.row (c11 ++ ([.int .i64 k1, .int .i64 (wrapA .i64 (wrapA .i64 (0 - n) - ((i : Nat) : Int))), t1] ++ c12)) 24 false none) := by have hq := A6; rw [show (AV.cells (.int .i64 (wrapA .i64 (wrapA .i64 (0 - n) - ((i : Nat) : Int))))) = [.int .i64 (wrapA .i64 (wrapA .i64 (0 - n) - ((i : Nat) : Int)))] from rfl, put_place hc1 1 (by decide) (by omega)] at hq; exact hq
    have E6 := Ext.put W0 E5 (by have := E5.n; omega) K6 n6 W6
    have A1 := K6.own A1 (by omega)
    have A2 := K6.own A2 (by omega)
    have hb2 := K6.own hb2 (by omega)
    refine o_nil ?_
    refine w_seq ?_
    refine w_region ?_
    refine o_rd (r_fieldAddr Ty.fo24_2 (by simp only [ev, envOf, val_set, ofValue, ofCell, ↓reduceIte, Nat.reduceEqDiff, v2, v3, v4, v6] <;> rfl)) rfl rfl ?_
    refine o_rd (r_load1 (v := .sl (.mt b2) (0) (l.length) (l.length + e2)) Ty.agg22 (by simp only [ev, envOf, val_set, ofValue, ofCell, ↓reduceIte, Nat.reduceEqDiff, v2, v3, v4, v6] <;> rfl) (read_mt A2 (Nat.le_of_ble_eq_true rfl))) rfl rfl ?_
    refine o_rd (r_move (by simp only [ev, envOf, val_set, ofValue, ofCell, ↓reduceIte, Nat.reduceEqDiff, v2, v3, v4, v6] <;> rfl)) rfl rfl ?_
    refine o_rd (r_move (by simp only [ev, envOf, val_set, ofValue, ofCell, ↓reduceIte, Nat.reduceEqDiff, v2, v3, v4, v6] <;> rfl)) rfl rfl ?_
    refine o_rd (r_negW (a := n) (by simp only [ev, envOf, val_set, ofValue, ofCell, ↓reduceIte, Nat.reduceEqDiff, v2, v3, v4, v6] <;> rfl)) rfl rfl ?_
    refine o_rd (r_move (by simp only [ev, envOf, val_set, ofValue, ofCell, ↓reduceIte, Nat.reduceEqDiff, v2, v3, v4, v6] <;> rfl)) rfl rfl ?_
    refine o_rd (r_subW (a := wrapA .i64 (0 - n)) (b := ((i : Nat) : Int)) (by simp only [ev, envOf, val_set, ofValue, ofCell, ↓reduceIte, Nat.reduceEqDiff, v2, v3, v4, v6] <;> rfl) (by simp only [ev, envOf, val_set, ofValue, ofCell, ↓reduceIte, Nat.reduceEqDiff, v2, v3, v4, v6] <;> rfl)) rfl rfl ?_
    refine o_rd (r_indexAddr Try.underlying22 Ty.csz24 (by simp only [ev, envOf, val_set, ofValue, ofCell, ↓reduceIte, Nat.reduceEqDiff, v2, v3, v4, v6] <;> rfl) (by simp only [ev, envOf, val_set, ofValue, ofCell, ↓reduceIte, Nat.reduceEqDiff, v2, v3, v4, v6] <;> rfl) hi1) rfl rfl ?_
    refine o_rd (r_fieldAddr Ty.fo24_1 (by simp only [ev, envOf, val_set, ofValue, ofCell, ↓reduceIte, Nat.reduceEqDiff, v2, v3, v4, v6] <;> rfl)) rfl rfl ?_
    refine o_st W6 (by simp only [ev, envOf, val_set, ofValue, ofCell, ↓reduceIte, Nat.reduceEqDiff, v2, v3, v4, v6] <;> rfl) (by simp only [ev, envOf, val_set, ofValue, ofCell, ↓reduceIte, Nat.reduceEqDiff, v2, v3, v4, v6] <;> rfl) hb2 Ty.csz3 rfl (by simp [hc2] <;> omega) rfl rfl rfl ?_; intro H7 n7 W7 A7 K7
    have A7 : H7.at (b2) = some (.row (c21 ++ ([.int .i64 k1, .int .i64 (wrapA .i64 (wrapA .i64 (0 - n) - ((i : Nat) : Int))), t2] ++ c22)) 24 false none) := by have hq := A7; rw [show (AV.cells (.int .i64 (wrapA .i64 (wrapA .i64 (0 - n) - ((i : Nat) : Int))))) = [.int .i64 (wrapA .i64 (wrapA .i64 (0 - n) - ((i : Nat) : Int)))] from rfl, put_place hc2 1 (by decide) (by omega)] at hq; exact hq
    have E7 := Ext.put W0 E6 (by have := E6.n; omega) K7 n7 W7
    have A1 := K7.own A1 (by omega)
    have A2 := K7.own A2 (by omega)
    have A6 := K7.own A6 (by omega)
    refine o_nil ?_
    refine w_seq ?_
    refine w_region ?_
    refine o_rd (r_fieldAddr Ty.fo24_2 (by simp only [ev, envOf, val_set, ofValue, ofCell, ↓reduceIte, Nat.reduceEqDiff, v2, v3, v4, v6] <;> rfl)) rfl rfl ?_
    refine o_rd (r_load1 (v := .sl (.mt b1) (0) (l.length) (l.length + e1)) Ty.agg22 (by simp only [ev, envOf, val_set, ofValue, ofCell, ↓reduceIte, Nat.reduceEqDiff, v2, v3, v4, v6] <;> rfl) (read_mt A1 (Nat.le_of_ble_eq_true rfl))) rfl rfl ?_
    refine o_rd (r_move (by simp only [ev, envOf, val_set, ofValue, ofCell, ↓reduceIte, Nat.reduceEqDiff, v2, v3, v4, v6] <;> rfl)) rfl rfl ?_
    refine o_rd (r_indexAddr Try.underlying22 Ty.csz24 (by simp only [ev, envOf, val_set, ofValue, ofCell, ↓reduceIte, Nat.reduceEqDiff, v2, v3, v4, v6] <;> rfl) (by simp only [ev, envOf, val_set, ofValue, ofCell, ↓reduceIte, Nat.reduceEqDiff, v2, v3, v4, v6] <;> rfl) hi1) rfl rfl ?_
    refine o_rd (r_fieldAddr Ty.fo24_0 (by simp only [ev, envOf, val_set, ofValue, ofCell, ↓reduceIte, Nat.reduceEqDiff, v2, v3, v4, v6] <;> rfl)) rfl rfl ?_
    refine o_st W7 (by simp only [ev, envOf, val_set, ofValue, ofCell, ↓reduceIte, Nat.reduceEqDiff, v2, v3, v4, v6] <;> rfl) (by simp only [ev, envOf, val_set, ofValue, ofCell, ↓reduceIte, Nat.reduceEqDiff, v2, v3, v4, v6] <;> rfl) A6 Ty.csz3 rfl (by simp [hc1] <;> omega) rfl rfl rfl ?_; intro H8 n8 W8 A8 K8
    have A8 : H8.at (b1) = some (.row (c11 ++ ([.int .i64 (50), .int .i64 (mkN n i), t1] ++ c12)) 24 false none) := by have hq := A8; rw [show (AV.cells (.int .i64 (50))) = [.int .i64 (50)] from rfl, put_place hc1 0 (by decide) (by omega)] at hq; exact hq
    have E8 := Ext.put W0 E7 (by have := E7.n; omega) K8 n8 W8
    have A1 := K8.own A1 (by omega)
    have A2 := K8.own A2 (by omega)
    have A7 := K8.own A7 (by omega)
    refine o_nil ?_
    refine w_region ?_
    refine o_rd (r_fieldAddr Ty.fo24_2 (by simp only [ev, envOf, val_set, ofValue, ofCell, ↓reduceIte, Nat.reduceEqDiff, v2, v3, v4, v6] <;> rfl)) rfl rfl ?_
    refine o_rd (r_load1 (v := .sl (.mt b2) (0) (l.length) (l.length + e2)) Ty.agg22 (by simp only [ev, envOf, val_set, ofValue, ofCell, ↓reduceIte, Nat.reduceEqDiff, v2, v3, v4, v6] <;> rfl) (read_mt A2 (Nat.le_of_ble_eq_true rfl))) rfl rfl ?_
    refine o_rd (r_move (by simp only [ev, envOf, val_set, ofValue, ofCell, ↓reduceIte, Nat.reduceEqDiff, v2, v3, v4, v6] <;> rfl)) rfl rfl ?_
    refine o_rd (r_indexAddr Try.underlying22 Ty.csz24 (by simp only [ev, envOf, val_set, ofValue, ofCell, ↓reduceIte, Nat.reduceEqDiff, v2, v3, v4, v6] <;> rfl) (by simp only [ev, envOf, val_set, ofValue, ofCell, ↓reduceIte, Nat.reduceEqDiff, v2, v3, v4, v6] <;> rfl) hi1) rfl rfl ?_
    refine o_rd (r_fieldAddr Ty.fo24_0 (by simp only [ev, envOf, val_set, ofValue, ofCell, ↓reduceIte, Nat.reduceEqDiff, v2, v3, v4, v6] <;> rfl)) rfl rfl ?_
    refine o_st W8 (by simp only [ev, envOf, val_set, ofValue, ofCell, ↓reduceIte, Nat.reduceEqDiff, v2, v3, v4, v6] <;> rfl) (by simp only [ev, envOf, val_set, ofValue, ofCell, ↓reduceIte, Nat.reduceEqDiff, v2, v3, v4, v6] <;> rfl) A7 Ty.csz3 rfl (by simp [hc2] <;> omega) rfl rfl rfl ?_; intro H9 n9 W9 A9 K9
    have A9 : H9.at (b2) = some (.row (c21 ++ ([.int .i64 (50), .int .i64 (mkN n i), t2] ++ c22)) 24 false none) := by have hq := A9; rw [show (AV.cells (.int .i64 (50))) = [.int .i64 (50)] from rfl, put_place hc2 0 (by decide) (by omega)] at hq; exact hq
    have E9 := Ext.put W0 E8 (by have := E8.n; omega) K9 n9 W9
    have A1 := K9.own A1 (by omega)
    have A2 := K9.own A2 (by omega)
    have A8 := K9.own A8 (by omega)
    refine o_nil ?_
    refine w_region ?_
    refine o_rd (r_move (by simp only [ev, envOf, val_set, ofValue, ofCell, ↓reduceIte, Nat.reduceEqDiff, v2, v3, v4, v6] <;> rfl)) rfl rfl ?_
    refine o_rd (r_addE (a := ((i : Nat) : Int)) (b := 1) (c := ((i + 1 : Nat) : Int)) (by simp only [ev, envOf, val_set, ofValue, ofCell, ↓reduceIte, Nat.reduceEqDiff, v2, v3, v4, v6] <;> rfl) (by simp only [ev, envOf, val_set, ofValue, ofCell, ↓reduceIte, Nat.reduceEqDiff, v2, v3, v4, v6] <;> rfl) (by omega) (by omega) (by omega)) rfl rfl ?_
    refine o_rd (r_assign (by simp only [ev, envOf, val_set, ofValue, ofCell, ↓reduceIte, Nat.reduceEqDiff, v2, v3, v4, v6] <;> rfl)) rfl rfl ?_
    refine o_nil ?_
    have G := (Fr.put (Fr.put (Fr.put (Fr.put (FR.mono (Y := b1 :: b2 :: (p2 ++ w2)) (fun c hc => List.mem_cons_of_mem _ (List.mem_cons_of_mem _ hc))) K6 n6 W6 (by simp)) K7 n7 W7 (by simp)) K8 n8 W8 (by simp)) K9 n9 W9 (by simp))
    have hp1 : FSl H9 e1 p2 (markV (mkC n i) l[i]).l t1 := by
      rw [hli] at hV2 ⊢; simp only [markV, V.l] at hV2 ⊢
      cases hV2 with | mk _ _ _ _ _ h =>
      refine h.keep fun c hc x hx => ?_
      exact (K9.own (K8.own (K7.own (K6.own hx (by rintro rfl; simp only [List.nodup_append, List.nodup_cons, List.mem_append, List.mem_cons] at hnd; grind)) (by rintro rfl; simp only [List.nodup_append, List.nodup_cons, List.mem_append, List.mem_cons] at hnd; grind)) (by rintro rfl; simp only [List.nodup_append, List.nodup_cons, List.mem_append, List.mem_cons] at hnd; grind)) (by rintro rfl; simp only [List.nodup_append, List.nodup_cons, List.mem_append, List.mem_cons] at hnd; grind))
    have hV3 : FT H9 e1 (b1 :: (p1 ++ (p2 ++ p3))) (.mk ka ma (mix n (i + 1) l)) [.int .i64 ka, .int .i64 ma, .sl (.mt b1) 0 l.length (l.length + e1)] := by
      rw [← mix_set hi1]
      exact .mk _ _ _ _ _ (hf1 H9 _ _ (.mk _ _ _ _ _ hp1) A8 fun c hc x hx => G.keep c x hx (by simp only [List.nodup_append, List.nodup_cons, List.mem_append, List.mem_cons] at hnd hc ⊢; grind))
    have hp2 : FSl H9 e2 w2 (markV (mkC n i) l[i]).l t2 := by
      rw [hli] at hW2 ⊢; simp only [markV, V.l] at hW2 ⊢
      cases hW2 with | mk _ _ _ _ _ h =>
      refine h.keep fun c hc x hx => ?_
      exact (K9.own (K8.own (K7.own (K6.own hx (by rintro rfl; simp only [List.nodup_append, List.nodup_cons, List.mem_append, List.mem_cons] at hnd; grind)) (by rintro rfl; simp only [List.nodup_append, List.nodup_cons, List.mem_append, List.mem_cons] at hnd; grind)) (by rintro rfl; simp only [List.nodup_append, List.nodup_cons, List.mem_append, List.mem_cons] at hnd; grind)) (by rintro rfl; simp only [List.nodup_append, List.nodup_cons, List.mem_append, List.mem_cons] at hnd; grind))
    have hW3 : FT H9 e2 (b2 :: (w1 ++ (w2 ++ w3))) (.mk ka ma (mix n (i + 1) l)) [.int .i64 ka, .int .i64 ma, .sl (.mt b2) 0 l.length (l.length + e2)] := by
      rw [← mix_set hi1]
      exact .mk _ _ _ _ _ (hf2 H9 _ _ (.mk _ _ _ _ _ hp2) A9 fun c hc x hx => G.keep c x hx (by simp only [List.nodup_append, List.nodup_cons, List.mem_append, List.mem_cons] at hnd hc ⊢; grind))
    have hF3 := hF.trans (G.mono (Y := (b1 :: (p1 ++ (p2 ++ p3))) ++ (b2 :: (w1 ++ (w2 ++ w3)))) (fun c hc => by simp only [List.mem_append, List.mem_cons] at hc ⊢; grind))
    exact ⟨m - 1, by omega, _, H9, i + 1, rfl, (by simp only [val_set, ↓reduceIte, Nat.reduceEqDiff, v2, v3, v4, v6] <;> rfl), (by simp only [val_set, ↓reduceIte, Nat.reduceEqDiff, v2, v3, v4, v6] <;> rfl), (by simp only [val_set, ↓reduceIte, Nat.reduceEqDiff, v2, v3, v4, v6] <;> rfl), (by simp only [val_set, ↓reduceIte, Nat.reduceEqDiff, v2, v3, v4, v6] <;> rfl), W9, E9, A1, A2, hV3, hW3, hF3, by omega⟩
  · have hc4 := dec_f hc4
    first | refine w_exit (blk_exit ?_) | refine w_exit (show (0 = 0 → _) ∧ (0 ≠ 0 → _) from ⟨fun _ => ?_, fun c => absurd rfl c⟩)
    refine ⟨.inl rfl, rfl, .tup [], (show resultA Try.prog [] _ = _ by simp only [resultA, resultsA, envOf, val_set, ↓reduceIte, Nat.reduceEqDiff, Option.map_some, v2, v3, v4, v6] <;> rfl), ?_⟩
    try dsimp only
    obtain rfl : i = l.length := by omega
    rw [mix_all] at hV hW
    exact ⟨rfl, by simp only [markV]; exact hV, by simp only [markV]; exact hW, hF, E3⟩
theorem mark_fin (ho : NoOrcBut [9, 35, 36] orc) {H0 : AH} (W0 : Wf H0) {e1 e2 : Nat} (x : V) : ∀ (H : AH), Wf H → Ext H0 H → ∀ (n : Int) (bv bw : List Nat) (a1 a2 : List AV), FT H e1 bv x a1 → FT H e2 bw x a2 → (bv ++ bw).Nodup → (∀ c ∈ bv ++ bw, H0.n ≤ c ∧ c < H.n) → VI.Fin Try.prog orc 48 [.agg a1, .agg a2, .int .i64 n] H (fun r H' => r = .tup [] ∧ FT H' e1 bv (markV n x) a1 ∧ FT H' e2 bw (markV n x) a2 ∧ Fr (bv ++ bw) H H' ∧ Ext H0 H') := by
  refine V.ind (p := fun x => ∀ (H : AH), Wf H → Ext H0 H → ∀ (n : Int) (bv bw : List Nat) (a1 a2 : List AV), FT H e1 bv x a1 → FT H e2 bw x a2 → (bv ++ bw).Nodup → (∀ c ∈ bv ++ bw, H0.n ≤ c ∧ c < H.n) → VI.Fin Try.prog orc 48 [.agg a1, .agg a2, .int .i64 n] H (fun r H' => r = .tup [] ∧ FT H' e1 bv (markV n x) a1 ∧ FT H' e2 bw (markV n x) a2 ∧ Fr (bv ++ bw) H H' ∧ Ext H0 H')) ?_ x
  intro k m l ih H W E n bv bw a1 a2 h1 h2 hn hb
  obtain ⟨k1, m1, l1, s1, rfl, e1', hs1⟩ := h1.inv
  obtain ⟨k2, m2, l2, s2, rfl, e2', hs2⟩ := h2.inv
  injection e1' with q1 q2 q3; subst q1; subst q2; subst q3
  injection e2' with q1 q2 q3; subst q1; subst q2; subst q3
  exact mark_step ho W0 W E n k m l s1 s2 bv bw h1 h2 hn hb ih
end Go.Proofs.Ytenfjdkeikjhlaa.Vs
