/-
  The law TreeKids answers true.
-/
import Derived.Test.YtpdphdbphhaekaaDoorTree11
set_option autoImplicit false
set_option linter.unusedVariables false
set_option linter.unusedSimpArgs false
namespace Go.Proofs.YtpdphdbphhaekaaDoor.Vs
open Go.VI Go.Proofs
variable {orc : CallF}
set_option maxRecDepth 100000 in
set_option maxHeartbeats 4000000 in
theorem treeKids_fin (ho : NoOrcBut [8, 64, 65] orc) {H0 : AH} (W0 : Wf H0) (ho64 : ∃ sg, ∀ H, orc 64 [] H = some (.ret sg, H)) (tx : Nat → List UInt8) (ho65 : ∀ k : Nat, k < 67 → ∀ H, orc 65 [.int .i64 (k : Int)] H = some (.ret (.str (tx k)), H)) (ho8 : ∀ H, orc 8 [] H = some (.ret (.bool true), H)) (l : List ND) (sl : AV) (hL : NS H0 l sl) (hnm : ∀ j, (h : j < l.length) → l[j].nm.length ≤ 4611686018427387904) : Fin Tryd.prog orc 5 [sl] H0 (fun r H' => r = .bool true ∧ Ext H0 H') := by
  have E0 := Ext.refl W0
  have hlb := hL.bound
  refine fin_of Tryd.func5 rfl (by rw [Tryd.ntmps5]; simp) (ho _ rfl _ _) ?_
  rw [Tryd.ntmps5]
  refine w_seq ?_
  refine w_region ?_
  refine o_rd (r_assign (by simp only [ev, envOf, val_set, ofValue, ofCell, ↓reduceIte, Nat.reduceEqDiff] <;> rfl)) rfl rfl ?_
  refine o_nil ?_
  refine w_seq ?_
  refine w_seq ?_
  refine w_region ?_
  refine o_rd (r_move (by simp only [ev, envOf, val_set, ofValue, ofCell, ↓reduceIte, Nat.reduceEqDiff] <;> rfl)) rfl rfl ?_
  refine o_cl rfl rfl (by simp only [evs, ev, envOf, val_set, ofValue, ofCell, ↓reduceIte, Nat.reduceEqDiff] <;> rfl) rfl (beyond_fin ho W0 l _ (hL.ext E0) hnm) rfl rfl ?_; rintro _ H1 ⟨bb, rfl, hbb, X1⟩
  have W1 := X1.wf; have E1 := E0.trans X1
  have n1 := X1.n
  refine o_nil ?_
  refine w_cond (by simp only [ev, envOf, val_set, ofValue, ofCell, ↓reduceIte, Nat.reduceEqDiff] <;> rfl) (fun hB2 => ?_) (fun hB2 => ?_)
  · have hc2 := hB2
    refine w_seq ?_
    refine w_region ?_
    refine o_rd (r_assign (by simp only [ev, envOf, val_set, ofValue, ofCell, ↓reduceIte, Nat.reduceEqDiff] <;> rfl)) rfl rfl ?_
    refine o_nil ?_
    refine w_ret ⟨.inr rfl, rfl, .bool (true), (show resultA Tryd.prog [.tmp 2] _ = _ by simp only [resultA, resultsA, envOf, val_set, ↓reduceIte, Nat.reduceEqDiff, Option.map_some] <;> rfl), ?_⟩
    try dsimp only
    exact ⟨rfl, E1⟩
  · have hc2 := hB2
    refine w_skip ?_
    refine w_seq ?_
    refine w_seq ?_
    refine w_region ?_
    refine o_cl rfl rfl (by simp only [evs, ev, envOf, val_set, ofValue, ofCell, ↓reduceIte, Nat.reduceEqDiff] <;> rfl) rfl (fin_orc ho8 W1) rfl rfl ?_; rintro _ H3 ⟨rfl, X3⟩
    have W3 := X3.wf; have E3 := E1.trans X3
    have n3 := X3.n
    refine o_rd (r_not (by simp only [ev, envOf, val_set, ofValue, ofCell, ↓reduceIte, Nat.reduceEqDiff] <;> rfl)) rfl rfl ?_
    refine o_nil ?_
    refine w_cond (t := false) (by simp only [ev, envOf, val_set, ofValue, ofCell, ↓reduceIte, Nat.reduceEqDiff] <;> rfl) (fun h => by cases h) (fun _ => ?_)
    refine w_skip ?_
    refine w_seq ?_
    refine w_region ?_
    refine o_rd (r_move (by simp only [ev, envOf, val_set, ofValue, ofCell, ↓reduceIte, Nat.reduceEqDiff] <;> rfl)) rfl rfl ?_
    refine o_cl rfl rfl (by simp only [evs, ev, envOf, val_set, ofValue, ofCell, ↓reduceIte, Nat.reduceEqDiff] <;> rfl) rfl (check_fin ho W3 ho64 tx ho65 l _ (hL.ext E3) (hbb (by assumption)) hnm) rfl rfl ?_; rintro _ H4 ⟨rfl, X4⟩
    have W4 := X4.wf; have E4 := E3.trans X4
    have n4 := X4.n
    refine o_rd (r_move (by simp only [ev, envOf, val_set, ofValue, ofCell, ↓reduceIte, Nat.reduceEqDiff] <;> rfl)) rfl rfl ?_
    refine o_rd (r_extract (by simp only [ev, envOf, val_set, ofValue, ofCell, ↓reduceIte, Nat.reduceEqDiff] <;> rfl) rfl) rfl rfl ?_
    refine o_rd (r_extract (by simp only [ev, envOf, val_set, ofValue, ofCell, ↓reduceIte, Nat.reduceEqDiff] <;> rfl) rfl) rfl rfl ?_
    refine o_rd (r_assign (by simp only [ev, envOf, val_set, ofValue, ofCell, ↓reduceIte, Nat.reduceEqDiff] <;> rfl)) rfl rfl ?_
    refine o_rd (r_assign (by simp only [ev, envOf, val_set, ofValue, ofCell, ↓reduceIte, Nat.reduceEqDiff] <;> rfl)) rfl rfl ?_
    refine o_nil ?_
    refine w_seq ?_
    refine w_seq ?_
    refine w_region ?_
    refine o_rd (r_move (by simp only [ev, envOf, val_set, ofValue, ofCell, ↓reduceIte, Nat.reduceEqDiff] <;> rfl)) rfl rfl ?_
    refine o_rd (r_ne (a := (checkB tx l).2) (b := 0) (by simp only [ev, envOf, val_set, ofValue, ofCell, ↓reduceIte, Nat.reduceEqDiff] <;> rfl) (by simp only [ev, envOf, val_set, ofValue, ofCell, ↓reduceIte, Nat.reduceEqDiff] <;> rfl)) rfl rfl ?_
    refine o_nil ?_
    refine w_cond (by simp only [ev, envOf, val_set, ofValue, ofCell, ↓reduceIte, Nat.reduceEqDiff] <;> rfl) (fun hB5 => ?_) (fun hB5 => ?_)
    · have hc5 := dec_t hB5
      refine w_seq ?_
      refine w_region ?_
      refine o_rd (r_assign (by simp only [ev, envOf, val_set, ofValue, ofCell, ↓reduceIte, Nat.reduceEqDiff] <;> rfl)) rfl rfl ?_
      refine o_nil ?_
      refine w_ret ⟨.inr rfl, rfl, .bool (true), (show resultA Tryd.prog [.tmp 2] _ = _ by simp only [resultA, resultsA, envOf, val_set, ↓reduceIte, Nat.reduceEqDiff, Option.map_some] <;> rfl), ?_⟩
      try dsimp only
      exact ⟨rfl, E4⟩
    · have hc5 := dec_fn hB5
      refine w_skip ?_
      refine w_seq ?_
      refine w_region ?_
      have hll := hbb (by assumption)
      have hok : (checkB tx l).2 = 0 := by omega
      obtain ⟨hl0, hP, hrg⟩ := check_perm hok
      have hkl := kidsOf_len hP; have hnd := kidsOf_nodup hP; have hhl := hts_len l l.length
      refine o_rd (r_move (by simp only [ev, envOf, val_set, ofValue, ofCell, ↓reduceIte, Nat.reduceEqDiff] <;> rfl)) rfl rfl ?_
      refine o_cl rfl rfl (by simp only [evs, ev, envOf, val_set, ofValue, ofCell, ↓reduceIte, Nat.reduceEqDiff] <;> rfl) rfl (height_fin ho W4 l _ (hL.ext E4) (hbb (by assumption)) hl0) rfl rfl ?_; rintro _ H6 ⟨loch, offh, caph, rfl, X6, hrh⟩
      have W6 := X6.wf; have E6 := E4.trans X6
      have n6 := X6.n
      refine o_rd (r_assign (by simp only [ev, envOf, val_set, ofValue, ofCell, ↓reduceIte, Nat.reduceEqDiff] <;> rfl)) rfl rfl ?_
      refine o_nil ?_
      refine w_seq ?_
      refine w_region ?_
      refine o_rd (r_move (by simp only [ev, envOf, val_set, ofValue, ofCell, ↓reduceIte, Nat.reduceEqDiff] <;> rfl)) rfl rfl ?_
      refine o_rd (r_len (n := l.length) Tryd.underlying28 (by simp only [ev, envOf, val_set, ofValue, ofCell, ↓reduceIte, Nat.reduceEqDiff] <;> rfl) hL.lenOf) rfl rfl ?_
      have hE15 := E6.n; have hW15 := W6
      refine o_nw W6 (a_makeSlice (m := l.length) (p := l.length) Tryd.underlying38 Ty.csz4 Ty.zero4 Ty.byt4 rfl (by simp only [ev, envOf, val_set, ofValue, ofCell, ↓reduceIte, Nat.reduceEqDiff] <;> rfl) (by simp only [ev, envOf, val_set, ofValue, ofCell, ↓reduceIte, Nat.reduceEqDiff] <;> rfl) (Nat.le_refl _) (by omega)) rfl rfl rfl (by simp) ?_; intro H7 n7 W7 X7 A7
      have A7 : H7.at H6.n = some (.row ((List.replicate l.length false).map AV.bool) 4 false none) := by rw [← reps_bool]; exact A7
      have E7 := E6.trans X7; have hX15 := X7
      refine o_rd (r_assign (by simp only [ev, envOf, val_set, ofValue, ofCell, ↓reduceIte, Nat.reduceEqDiff] <;> rfl)) rfl rfl ?_
      refine o_nil ?_
      refine w_seq ?_
      refine w_region ?_
      refine o_rd (r_assign (by simp only [ev, envOf, val_set, ofValue, ofCell, ↓reduceIte, Nat.reduceEqDiff] <;> rfl)) rfl rfl ?_
      refine o_nil ?_
      refine w_seq ?_
      refine w_seq ?_
      refine w_region ?_
      refine o_rd (r_assign (by simp only [ev, envOf, val_set, ofValue, ofCell, ↓reduceIte, Nat.reduceEqDiff] <;> rfl)) rfl rfl ?_
      refine o_nil ?_
      refine w_block ?_
      refine w_loop (fun m s => ∃ (e : Env) (H : AH) (i : Nat) (kd : List Bool) (mn : Int), s = ⟨e, H, []⟩ ∧ e.val 0 = sl ∧ e.val 2 = .bool (false) ∧ e.val 5 = .sl loch (offh) (l.length) caph ∧ e.val 6 = .sl (.mt H6.n) (0) (l.length) l.length ∧ e.val 7 = .int .i64 (mn) ∧ e.val 8 = .int .i64 (((i : Nat) : Int)) ∧ Wf H ∧ Ext H0 H ∧ H.at (H6.n) = some (.row (kd.map AV.bool) 4 false none) ∧ (i + m = l.length) ∧ (kd.length = l.length) ∧ (MK kd (kidsOf (l.take i))) ∧ (mn = ((kidsOf (l.take i)).length : Int)) ∧ (Ext H6 H)) (l.length) ⟨_, H7, 0, List.replicate l.length false, 0, rfl, (by simp only [val_set, ↓reduceIte, Nat.reduceEqDiff] <;> rfl), (by simp only [val_set, ↓reduceIte, Nat.reduceEqDiff] <;> rfl), (by simp only [val_set, ↓reduceIte, Nat.reduceEqDiff] <;> rfl), (by simp only [val_set, ↓reduceIte, Nat.reduceEqDiff] <;> rfl), (by simp only [val_set, ↓reduceIte, Nat.reduceEqDiff] <;> rfl), (by simp only [val_set, ↓reduceIte, Nat.reduceEqDiff] <;> rfl), W7, E7, A7, (by omega), (by simp), MK.none, rfl, hX15⟩ ?_
      intro m s hi
      obtain ⟨e, H8, i, kd, mn, rfl, v0, v2, v5, v6, v7, v8, W8, E8, A7, him, hkd, HM, hmn, hX15⟩ := hi
      have l8_0 := W8.lt A7
      refine w_seq ?_
      refine w_seq ?_
      refine w_region ?_
      refine o_rd (r_move (by simp only [ev, envOf, val_set, ofValue, ofCell, ↓reduceIte, Nat.reduceEqDiff, v0, v2, v5, v6, v7, v8] <;> rfl)) rfl rfl ?_
      refine o_rd (r_move (by simp only [ev, envOf, val_set, ofValue, ofCell, ↓reduceIte, Nat.reduceEqDiff, v0, v2, v5, v6, v7, v8] <;> rfl)) rfl rfl ?_
      refine o_rd (r_len (n := l.length) Tryd.underlying28 (by simp only [ev, envOf, val_set, ofValue, ofCell, ↓reduceIte, Nat.reduceEqDiff, v0, v2, v5, v6, v7, v8] <;> rfl) hL.lenOf) rfl rfl ?_
      refine o_rd (r_lt (a := ((i : Nat) : Int)) (b := ((l.length : Nat) : Int)) (by simp only [ev, envOf, val_set, ofValue, ofCell, ↓reduceIte, Nat.reduceEqDiff, v0, v2, v5, v6, v7, v8] <;> rfl) (by simp only [ev, envOf, val_set, ofValue, ofCell, ↓reduceIte, Nat.reduceEqDiff, v0, v2, v5, v6, v7, v8] <;> rfl)) rfl rfl ?_
      refine o_nil ?_
      refine w_cond (by simp only [ev, envOf, val_set, ofValue, ofCell, ↓reduceIte, Nat.reduceEqDiff, v0, v2, v5, v6, v7, v8] <;> rfl) (fun hB9 => ?_) (fun hB9 => ?_)
      · have hc9 := dec_t hB9
        refine w_skip ?_
        refine w_seq ?_
        refine w_block ?_
        refine w_seq ?_
        refine w_region ?_
        have hi : i < l.length := by omega
        obtain ⟨loc1, off1, cap1, sk, rfl, hr1, hK⟩ := hL.get hi
        have hkb := hK.bound; have hmk := kid_many hi (Nat.le_refl _)
        refine o_rd (r_assign (by simp only [ev, envOf, val_set, ofValue, ofCell, ↓reduceIte, Nat.reduceEqDiff, v0, v2, v5, v6, v7, v8] <;> rfl)) rfl rfl ?_
        refine o_nil ?_
        refine w_block ?_
        refine w_loop (fun m s => ∃ (e : Env) (H : AH) (k : Nat) (kd : List Bool) (mn : Int), s = ⟨e, H, []⟩ ∧ e.val 0 = .sl loc1 (off1) (l.length) cap1 ∧ e.val 2 = .bool (false) ∧ e.val 5 = .sl loch (offh) (l.length) caph ∧ e.val 6 = .sl (.mt H6.n) (0) (l.length) l.length ∧ e.val 7 = .int .i64 (mn) ∧ e.val 8 = .int .i64 (((i : Nat) : Int)) ∧ e.val 9 = .int .i64 (((k : Nat) : Int)) ∧ Wf H ∧ Ext H0 H ∧ H.at (H6.n) = some (.row (kd.map AV.bool) 4 false none) ∧ (k + m = l[i].ks.length) ∧ (kd.length = l.length) ∧ (MK kd (kidsOf (l.take i) ++ l[i].ks.take k)) ∧ (mn = (((kidsOf (l.take i)).length + k : Nat) : Int)) ∧ (Ext H6 H)) (l[i].ks.length) ⟨_, H8, 0, kd, mn, rfl, (by simp only [val_set, ↓reduceIte, Nat.reduceEqDiff, v0, v2, v5, v6, v7, v8] <;> rfl), (by simp only [val_set, ↓reduceIte, Nat.reduceEqDiff, v0, v2, v5, v6, v7, v8] <;> rfl), (by simp only [val_set, ↓reduceIte, Nat.reduceEqDiff, v0, v2, v5, v6, v7, v8] <;> rfl), (by simp only [val_set, ↓reduceIte, Nat.reduceEqDiff, v0, v2, v5, v6, v7, v8] <;> rfl), (by simp only [val_set, ↓reduceIte, Nat.reduceEqDiff, v0, v2, v5, v6, v7, v8] <;> rfl), (by simp only [val_set, ↓reduceIte, Nat.reduceEqDiff, v0, v2, v5, v6, v7, v8] <;> rfl), (by simp only [val_set, ↓reduceIte, Nat.reduceEqDiff, v0, v2, v5, v6, v7, v8] <;> rfl), W8, E8, A7, (by omega), hkd, (by rw [List.take_zero, List.append_nil]; exact HM), (by omega), hX15⟩ ?_
        intro m s hi
        obtain ⟨e, H10, k, kd, mn, rfl, v0, v2, v5, v6, v7, v8, v9, W10, E10, A7, hkm, hkd, HM, hmn, hX2⟩ := hi
        have l10_0 := W10.lt A7
        refine w_seq ?_
        refine w_seq ?_
        refine w_region ?_
        refine o_rd (r_move (by simp only [ev, envOf, val_set, ofValue, ofCell, ↓reduceIte, Nat.reduceEqDiff, v0, v2, v5, v6, v7, v8, v9] <;> rfl)) rfl rfl ?_
        refine o_rd (r_move (by simp only [ev, envOf, val_set, ofValue, ofCell, ↓reduceIte, Nat.reduceEqDiff, v0, v2, v5, v6, v7, v8, v9] <;> rfl)) rfl rfl ?_
        refine o_rd (r_move (by simp only [ev, envOf, val_set, ofValue, ofCell, ↓reduceIte, Nat.reduceEqDiff, v0, v2, v5, v6, v7, v8, v9] <;> rfl)) rfl rfl ?_
        refine o_rd (r_indexAddr Tryd.underlying28 Ty.csz24 (by simp only [ev, envOf, val_set, ofValue, ofCell, ↓reduceIte, Nat.reduceEqDiff, v0, v2, v5, v6, v7, v8, v9] <;> rfl) (by simp only [ev, envOf, val_set, ofValue, ofCell, ↓reduceIte, Nat.reduceEqDiff, v0, v2, v5, v6, v7, v8, v9] <;> rfl) hi) rfl rfl ?_
        refine o_rd (r_fieldAddr Ty.fo24_2 (by simp only [ev, envOf, val_set, ofValue, ofCell, ↓reduceIte, Nat.reduceEqDiff, v0, v2, v5, v6, v7, v8, v9] <;> rfl)) rfl rfl ?_
        refine o_rd (r_load1 Ty.agg22 (by simp only [ev, envOf, val_set, ofValue, ofCell, ↓reduceIte, Nat.reduceEqDiff, v0, v2, v5, v6, v7, v8, v9] <;> rfl) ((read_part (Ext.read (H := H0) (by assumption) hr1) (o := 2) (m := 1) (by decide)).trans rfl)) rfl rfl ?_
        refine o_rd (r_len (n := l[i].ks.length) Tryd.underlying22 (by simp only [ev, envOf, val_set, ofValue, ofCell, ↓reduceIte, Nat.reduceEqDiff, v0, v2, v5, v6, v7, v8, v9] <;> rfl) hK.lenOf) rfl rfl ?_
        refine o_rd (r_lt (a := ((k : Nat) : Int)) (b := ((l[i].ks.length : Nat) : Int)) (by simp only [ev, envOf, val_set, ofValue, ofCell, ↓reduceIte, Nat.reduceEqDiff, v0, v2, v5, v6, v7, v8, v9] <;> rfl) (by simp only [ev, envOf, val_set, ofValue, ofCell, ↓reduceIte, Nat.reduceEqDiff, v0, v2, v5, v6, v7, v8, v9] <;> rfl)) rfl rfl ?_
        refine o_nil ?_
        refine w_cond (by simp only [ev, envOf, val_set, ofValue, ofCell, ↓reduceIte, Nat.reduceEqDiff, v0, v2, v5, v6, v7, v8, v9] <;> rfl) (fun hB11 => ?_) (fun hB11 => ?_)
        · have hc11 := dec_t hB11
          refine w_skip ?_
          refine w_seq ?_
          refine w_block ?_
          refine w_seq ?_
          refine w_region ?_
          have hk : k < l[i].ks.length := by omega
          obtain ⟨a, ha⟩ : ∃ a : Nat, l[i].ks[k] = (a : Int) := ⟨(l[i].ks[k]).toNat, by have := hrg i hi k hk; omega⟩
          have hai : a < i := by have := hrg i hi k hk; omega
          have hal : a < kd.length := by omega
          have hnw := kid_new hi hk hnd; rw [ha] at hnw
          have hkf := MK.no HM hal hnw
          have hlt := hts_lt hi hai (by rw [← ha]; exact List.getElem_mem hk)
          obtain ⟨loc2, off2, cap2, rfl, hr2⟩ := hK.get hk
          rw [ha] at hr2
          have hra : H6.read loch (offh + a * 1) 1 = some [.int .i64 ((hts l l.length)[a]'(by rw [hts_len]; omega))] := by rw [read_part hrh (by omega), flat_get (AV.int .i64) _ (by rw [hts_len]; omega)]
          have hri : H6.read loch (offh + i * 1) 1 = some [.int .i64 ((hts l l.length)[i]'(by rw [hts_len]; omega))] := by rw [read_part hrh (by omega), flat_get (AV.int .i64) _ (by rw [hts_len]; omega)]
          refine o_rd (r_move (by simp only [ev, envOf, val_set, ofValue, ofCell, ↓reduceIte, Nat.reduceEqDiff, v0, v2, v5, v6, v7, v8, v9] <;> rfl)) rfl rfl ?_
          refine o_rd (r_move (by simp only [ev, envOf, val_set, ofValue, ofCell, ↓reduceIte, Nat.reduceEqDiff, v0, v2, v5, v6, v7, v8, v9] <;> rfl)) rfl rfl ?_
          refine o_rd (r_indexAddr Tryd.underlying28 Ty.csz24 (by simp only [ev, envOf, val_set, ofValue, ofCell, ↓reduceIte, Nat.reduceEqDiff, v0, v2, v5, v6, v7, v8, v9] <;> rfl) (by simp only [ev, envOf, val_set, ofValue, ofCell, ↓reduceIte, Nat.reduceEqDiff, v0, v2, v5, v6, v7, v8, v9] <;> rfl) hi) rfl rfl ?_
          refine o_rd (r_fieldAddr Ty.fo24_2 (by simp only [ev, envOf, val_set, ofValue, ofCell, ↓reduceIte, Nat.reduceEqDiff, v0, v2, v5, v6, v7, v8, v9] <;> rfl)) rfl rfl ?_
          refine o_rd (r_load1 Ty.agg22 (by simp only [ev, envOf, val_set, ofValue, ofCell, ↓reduceIte, Nat.reduceEqDiff, v0, v2, v5, v6, v7, v8, v9] <;> rfl) ((read_part (Ext.read (H := H0) (by assumption) hr1) (o := 2) (m := 1) (by decide)).trans rfl)) rfl rfl ?_
          refine o_rd (r_move (by simp only [ev, envOf, val_set, ofValue, ofCell, ↓reduceIte, Nat.reduceEqDiff, v0, v2, v5, v6, v7, v8, v9] <;> rfl)) rfl rfl ?_
          refine o_rd (r_indexAddr Tryd.underlying22 Ty.csz3 (by simp only [ev, envOf, val_set, ofValue, ofCell, ↓reduceIte, Nat.reduceEqDiff, v0, v2, v5, v6, v7, v8, v9] <;> rfl) (by simp only [ev, envOf, val_set, ofValue, ofCell, ↓reduceIte, Nat.reduceEqDiff, v0, v2, v5, v6, v7, v8, v9] <;> rfl) hk) rfl rfl ?_
          refine o_rd (r_load1 Ty.agg3 (by simp only [ev, envOf, val_set, ofValue, ofCell, ↓reduceIte, Nat.reduceEqDiff, v0, v2, v5, v6, v7, v8, v9] <;> rfl) (Ext.read (H := H0) (by assumption) hr2)) rfl rfl ?_
          refine o_rd (r_assign (by simp only [ev, envOf, val_set, ofValue, ofCell, ↓reduceIte, Nat.reduceEqDiff, v0, v2, v5, v6, v7, v8, v9] <;> rfl)) rfl rfl ?_
          refine o_nil ?_
          refine w_seq ?_
          refine w_seq ?_
          refine w_draw (ms := [0, 1, 3, 7, 7, 31, 63, 127, 255, 255, 1023, 2047, 4095, 8191, 16383, 16383, 65535, 131071, 16383, 16383, 802815, 1851391, 4194303, 8388607]) (ord := [0, 1, 2, 3, 4, 5, 6, 7, 8, 9, 10, 11, 12, 13, 14, 15, 16, 17, 18, 19, 20, 21, 22, 23]) (by kernel_rfl) (by kernel_rfl) (by kernel_rfl) ?_
          refine d_rd rfl (r_move (by simp only [ev, envOf, val_set, ofValue, ofCell, ↓reduceIte, Nat.reduceEqDiff, v0, v2, v5, v6, v7, v8, v9] <;> rfl)) rfl rfl ?_
          refine d_rd rfl (r_lt (a := ((a : Nat) : Int)) (b := 0) (by simp only [ev, envOf, val_set, ofValue, ofCell, ↓reduceIte, Nat.reduceEqDiff, v0, v2, v5, v6, v7, v8, v9] <;> rfl) (by simp only [ev, envOf, val_set, ofValue, ofCell, ↓reduceIte, Nat.reduceEqDiff, v0, v2, v5, v6, v7, v8, v9] <;> rfl)) rfl rfl ?_
          refine d_rd rfl (r_move (by simp only [ev, envOf, val_set, ofValue, ofCell, ↓reduceIte, Nat.reduceEqDiff, v0, v2, v5, v6, v7, v8, v9] <;> rfl)) rfl rfl ?_
          cases hg12 : (decide (((a : Nat) : Int) < 0) : Bool)
          · have hg12 := dec_f hg12
            refine d_rd rfl (r_move (by simp only [ev, envOf, val_set, ofValue, ofCell, ↓reduceIte, Nat.reduceEqDiff, v0, v2, v5, v6, v7, v8, v9] <;> rfl)) rfl ((wanted_of (b := false) rfl rfl rfl (by simp only [val_set, ↓reduceIte, Nat.reduceEqDiff, v0, v2, v5, v6, v7, v8, v9] <;> rfl)).trans rfl) ?_
            refine d_rd rfl (r_move (by simp only [ev, envOf, val_set, ofValue, ofCell, ↓reduceIte, Nat.reduceEqDiff, v0, v2, v5, v6, v7, v8, v9] <;> rfl)) rfl ((wanted_of (b := false) rfl rfl rfl (by simp only [val_set, ↓reduceIte, Nat.reduceEqDiff, v0, v2, v5, v6, v7, v8, v9] <;> rfl)).trans rfl) ?_
            refine d_rd rfl (r_ge (a := ((a : Nat) : Int)) (b := ((i : Nat) : Int)) (by simp only [ev, envOf, val_set, ofValue, ofCell, ↓reduceIte, Nat.reduceEqDiff, v0, v2, v5, v6, v7, v8, v9] <;> rfl) (by simp only [ev, envOf, val_set, ofValue, ofCell, ↓reduceIte, Nat.reduceEqDiff, v0, v2, v5, v6, v7, v8, v9] <;> rfl)) rfl ((wanted_of (b := false) rfl rfl rfl (by simp only [val_set, ↓reduceIte, Nat.reduceEqDiff, v0, v2, v5, v6, v7, v8, v9] <;> rfl)).trans rfl) ?_
            refine d_rd rfl (r_pick (t := false) (by simp only [ev, envOf, val_set, ofValue, ofCell, ↓reduceIte, Nat.reduceEqDiff, v0, v2, v5, v6, v7, v8, v9] <;> rfl) (fun h => by cases h) (fun _ => (by simp only [ev, envOf, val_set, ofValue, ofCell, ↓reduceIte, Nat.reduceEqDiff, v0, v2, v5, v6, v7, v8, v9] <;> rfl))) rfl rfl ?_
            refine d_rd rfl (r_move (by simp only [ev, envOf, val_set, ofValue, ofCell, ↓reduceIte, Nat.reduceEqDiff, v0, v2, v5, v6, v7, v8, v9] <;> rfl)) rfl rfl ?_
            cases hg13 : (decide (((i : Nat) : Int) ≤ ((a : Nat) : Int)) : Bool)
            · have hg13 := dec_f hg13
              refine d_rd rfl (r_move (by simp only [ev, envOf, val_set, ofValue, ofCell, ↓reduceIte, Nat.reduceEqDiff, v0, v2, v5, v6, v7, v8, v9] <;> rfl)) rfl ((wanted_of (b := false) rfl rfl rfl (by simp only [val_set, ↓reduceIte, Nat.reduceEqDiff, v0, v2, v5, v6, v7, v8, v9] <;> rfl)).trans rfl) ?_
              refine d_rd rfl (r_move (by simp only [ev, envOf, val_set, ofValue, ofCell, ↓reduceIte, Nat.reduceEqDiff, v0, v2, v5, v6, v7, v8, v9] <;> rfl)) rfl ((wanted_of (b := false) rfl rfl rfl (by simp only [val_set, ↓reduceIte, Nat.reduceEqDiff, v0, v2, v5, v6, v7, v8, v9] <;> rfl)).trans rfl) ?_
              refine d_rd rfl (r_indexAddr Tryd.underlying38 Ty.csz4 (by simp only [ev, envOf, val_set, ofValue, ofCell, ↓reduceIte, Nat.reduceEqDiff, v0, v2, v5, v6, v7, v8, v9] <;> rfl) (by simp only [ev, envOf, val_set, ofValue, ofCell, ↓reduceIte, Nat.reduceEqDiff, v0, v2, v5, v6, v7, v8, v9] <;> rfl) (by omega)) rfl ((wanted_of (b := false) rfl rfl rfl (by simp only [val_set, ↓reduceIte, Nat.reduceEqDiff, v0, v2, v5, v6, v7, v8, v9] <;> rfl)).trans rfl) ?_
              refine d_rd rfl (r_load1 Ty.agg4 (by simp only [ev, envOf, val_set, ofValue, ofCell, ↓reduceIte, Nat.reduceEqDiff, v0, v2, v5, v6, v7, v8, v9] <;> rfl) ((cell_bool A7 hal).trans (by rw [hkf]))) rfl ((wanted_of (b := false) rfl rfl rfl (by simp only [val_set, ↓reduceIte, Nat.reduceEqDiff, v0, v2, v5, v6, v7, v8, v9] <;> rfl)).trans rfl) ?_
              refine d_rd rfl (r_pick (t := false) (by simp only [ev, envOf, val_set, ofValue, ofCell, ↓reduceIte, Nat.reduceEqDiff, v0, v2, v5, v6, v7, v8, v9] <;> rfl) (fun h => by cases h) (fun _ => (by simp only [ev, envOf, val_set, ofValue, ofCell, ↓reduceIte, Nat.reduceEqDiff, v0, v2, v5, v6, v7, v8, v9] <;> rfl))) rfl rfl ?_
              refine d_rd rfl (r_move (by simp only [ev, envOf, val_set, ofValue, ofCell, ↓reduceIte, Nat.reduceEqDiff, v0, v2, v5, v6, v7, v8, v9] <;> rfl)) rfl rfl ?_
              refine d_rd rfl (r_move (by simp only [ev, envOf, val_set, ofValue, ofCell, ↓reduceIte, Nat.reduceEqDiff, v0, v2, v5, v6, v7, v8, v9] <;> rfl)) rfl ((wanted_of (b := false) rfl rfl rfl (by simp only [val_set, ↓reduceIte, Nat.reduceEqDiff, v0, v2, v5, v6, v7, v8, v9] <;> rfl)).trans rfl) ?_
              refine d_rd rfl (r_move (by simp only [ev, envOf, val_set, ofValue, ofCell, ↓reduceIte, Nat.reduceEqDiff, v0, v2, v5, v6, v7, v8, v9] <;> rfl)) rfl ((wanted_of (b := false) rfl rfl rfl (by simp only [val_set, ↓reduceIte, Nat.reduceEqDiff, v0, v2, v5, v6, v7, v8, v9] <;> rfl)).trans rfl) ?_
              refine d_rd rfl (r_indexAddr Tryd.underlying22 Ty.csz3 (by simp only [ev, envOf, val_set, ofValue, ofCell, ↓reduceIte, Nat.reduceEqDiff, v0, v2, v5, v6, v7, v8, v9] <;> rfl) (by simp only [ev, envOf, val_set, ofValue, ofCell, ↓reduceIte, Nat.reduceEqDiff, v0, v2, v5, v6, v7, v8, v9] <;> rfl) (by omega)) rfl ((wanted_of (b := false) rfl rfl rfl (by simp only [val_set, ↓reduceIte, Nat.reduceEqDiff, v0, v2, v5, v6, v7, v8, v9] <;> rfl)).trans rfl) ?_
              refine d_rd rfl (r_load1 Ty.agg3 (by simp only [ev, envOf, val_set, ofValue, ofCell, ↓reduceIte, Nat.reduceEqDiff, v0, v2, v5, v6, v7, v8, v9] <;> rfl) (hX2.read hra)) rfl ((wanted_of (b := false) rfl rfl rfl (by simp only [val_set, ↓reduceIte, Nat.reduceEqDiff, v0, v2, v5, v6, v7, v8, v9] <;> rfl)).trans rfl) ?_
              refine d_rd rfl (r_move (by simp only [ev, envOf, val_set, ofValue, ofCell, ↓reduceIte, Nat.reduceEqDiff, v0, v2, v5, v6, v7, v8, v9] <;> rfl)) rfl ((wanted_of (b := false) rfl rfl rfl (by simp only [val_set, ↓reduceIte, Nat.reduceEqDiff, v0, v2, v5, v6, v7, v8, v9] <;> rfl)).trans rfl) ?_
              refine d_rd rfl (r_move (by simp only [ev, envOf, val_set, ofValue, ofCell, ↓reduceIte, Nat.reduceEqDiff, v0, v2, v5, v6, v7, v8, v9] <;> rfl)) rfl ((wanted_of (b := false) rfl rfl rfl (by simp only [val_set, ↓reduceIte, Nat.reduceEqDiff, v0, v2, v5, v6, v7, v8, v9] <;> rfl)).trans rfl) ?_
              refine d_rd rfl (r_indexAddr Tryd.underlying22 Ty.csz3 (by simp only [ev, envOf, val_set, ofValue, ofCell, ↓reduceIte, Nat.reduceEqDiff, v0, v2, v5, v6, v7, v8, v9] <;> rfl) (by simp only [ev, envOf, val_set, ofValue, ofCell, ↓reduceIte, Nat.reduceEqDiff, v0, v2, v5, v6, v7, v8, v9] <;> rfl) (by omega)) rfl ((wanted_of (b := false) rfl rfl rfl (by simp only [val_set, ↓reduceIte, Nat.reduceEqDiff, v0, v2, v5, v6, v7, v8, v9] <;> rfl)).trans rfl) ?_
              refine d_rd rfl (r_load1 Ty.agg3 (by simp only [ev, envOf, val_set, ofValue, ofCell, ↓reduceIte, Nat.reduceEqDiff, v0, v2, v5, v6, v7, v8, v9] <;> rfl) (hX2.read hri)) rfl ((wanted_of (b := false) rfl rfl rfl (by simp only [val_set, ↓reduceIte, Nat.reduceEqDiff, v0, v2, v5, v6, v7, v8, v9] <;> rfl)).trans rfl) ?_
              refine d_rd rfl (r_ge (a := ((hts l l.length)[a]'(by rw [hts_len]; omega))) (b := ((hts l l.length)[i]'(by rw [hts_len]; omega))) (by simp only [ev, envOf, val_set, ofValue, ofCell, ↓reduceIte, Nat.reduceEqDiff, v0, v2, v5, v6, v7, v8, v9] <;> rfl) (by simp only [ev, envOf, val_set, ofValue, ofCell, ↓reduceIte, Nat.reduceEqDiff, v0, v2, v5, v6, v7, v8, v9] <;> rfl)) rfl ((wanted_of (b := false) rfl rfl rfl (by simp only [val_set, ↓reduceIte, Nat.reduceEqDiff, v0, v2, v5, v6, v7, v8, v9] <;> rfl)).trans rfl) ?_
              refine d_rd rfl (r_pick (t := false) (by simp only [ev, envOf, val_set, ofValue, ofCell, ↓reduceIte, Nat.reduceEqDiff, v0, v2, v5, v6, v7, v8, v9] <;> rfl) (fun h => by cases h) (fun _ => (by simp only [ev, envOf, val_set, ofValue, ofCell, ↓reduceIte, Nat.reduceEqDiff, v0, v2, v5, v6, v7, v8, v9] <;> rfl))) rfl rfl ?_
              refine d_nil ?_
              refine w_cond (by simp only [ev, envOf, val_set, ofValue, ofCell, ↓reduceIte, Nat.reduceEqDiff, v0, v2, v5, v6, v7, v8, v9] <;> rfl) (fun hB14 => ?_) (fun hB14 => ?_)
              · have hc14 := dec_t hB14
                refine w_seq ?_
                refine w_region ?_
                refine o_rd (r_assign (by simp only [ev, envOf, val_set, ofValue, ofCell, ↓reduceIte, Nat.reduceEqDiff, v0, v2, v5, v6, v7, v8, v9] <;> rfl)) rfl rfl ?_
                refine o_nil ?_
                refine w_ret ⟨.inr rfl, rfl, .bool (false), (show resultA Tryd.prog [.tmp 2] _ = _ by simp only [resultA, resultsA, envOf, val_set, ↓reduceIte, Nat.reduceEqDiff, Option.map_some, v0, v2, v5, v6, v7, v8, v9] <;> rfl), ?_⟩
                try dsimp only
                exfalso; omega
              · have hc14 := dec_f hB14
                refine w_skip ?_
                refine w_seq ?_
                refine w_region ?_
                refine o_rd (r_move (by simp only [ev, envOf, val_set, ofValue, ofCell, ↓reduceIte, Nat.reduceEqDiff, v0, v2, v5, v6, v7, v8, v9] <;> rfl)) rfl rfl ?_
                refine o_rd (r_move (by simp only [ev, envOf, val_set, ofValue, ofCell, ↓reduceIte, Nat.reduceEqDiff, v0, v2, v5, v6, v7, v8, v9] <;> rfl)) rfl rfl ?_
                refine o_rd (r_indexAddr Tryd.underlying38 Ty.csz4 (by simp only [ev, envOf, val_set, ofValue, ofCell, ↓reduceIte, Nat.reduceEqDiff, v0, v2, v5, v6, v7, v8, v9] <;> rfl) (by simp only [ev, envOf, val_set, ofValue, ofCell, ↓reduceIte, Nat.reduceEqDiff, v0, v2, v5, v6, v7, v8, v9] <;> rfl) (by omega)) rfl rfl ?_
                refine o_st W10 (by simp only [ev, envOf, val_set, ofValue, ofCell, ↓reduceIte, Nat.reduceEqDiff, v0, v2, v5, v6, v7, v8, v9] <;> rfl) (by simp only [ev, envOf, val_set, ofValue, ofCell, ↓reduceIte, Nat.reduceEqDiff, v0, v2, v5, v6, v7, v8, v9] <;> rfl) A7 Ty.csz4 rfl (by simp; omega) rfl rfl rfl ?_; intro H15 n15 W15 A15 K15
                have A15 : H15.at (H6.n) = some (.row ((kd.set a true).map AV.bool) 4 false none) := by rw [← put_bool hal]; exact A15
                have E15 := Ext.put W0 E10 (by have := E10.n; omega) K15 n15 W15
                refine o_nil ?_
                refine w_region ?_
                refine o_rd (r_move (by simp only [ev, envOf, val_set, ofValue, ofCell, ↓reduceIte, Nat.reduceEqDiff, v0, v2, v5, v6, v7, v8, v9] <;> rfl)) rfl rfl ?_
                refine o_rd (r_addE (a := mn) (b := 1) (c := mn + 1) (by simp only [ev, envOf, val_set, ofValue, ofCell, ↓reduceIte, Nat.reduceEqDiff, v0, v2, v5, v6, v7, v8, v9] <;> rfl) (by simp only [ev, envOf, val_set, ofValue, ofCell, ↓reduceIte, Nat.reduceEqDiff, v0, v2, v5, v6, v7, v8, v9] <;> rfl) (by omega) (by omega) (by omega)) rfl rfl ?_
                refine o_rd (r_assign (by simp only [ev, envOf, val_set, ofValue, ofCell, ↓reduceIte, Nat.reduceEqDiff, v0, v2, v5, v6, v7, v8, v9] <;> rfl)) rfl rfl ?_
                refine o_nil ?_
                refine w_region ?_
                refine o_rd (r_move (by simp only [ev, envOf, val_set, ofValue, ofCell, ↓reduceIte, Nat.reduceEqDiff, v0, v2, v5, v6, v7, v8, v9] <;> rfl)) rfl rfl ?_
                refine o_rd (r_addE (a := ((k : Nat) : Int)) (b := 1) (c := ((k + 1 : Nat) : Int)) (by simp only [ev, envOf, val_set, ofValue, ofCell, ↓reduceIte, Nat.reduceEqDiff, v0, v2, v5, v6, v7, v8, v9] <;> rfl) (by simp only [ev, envOf, val_set, ofValue, ofCell, ↓reduceIte, Nat.reduceEqDiff, v0, v2, v5, v6, v7, v8, v9] <;> rfl) (by omega) (by omega) (by omega)) rfl rfl ?_
                refine o_rd (r_assign (by simp only [ev, envOf, val_set, ofValue, ofCell, ↓reduceIte, Nat.reduceEqDiff, v0, v2, v5, v6, v7, v8, v9] <;> rfl)) rfl rfl ?_
                refine o_nil ?_
                exact ⟨l[i].ks.length - (k + 1), (by omega), _, H15, k + 1, kd.set a true, mn + 1, rfl, (by simp only [val_set, ↓reduceIte, Nat.reduceEqDiff, v0, v2, v5, v6, v7, v8, v9] <;> rfl), (by simp only [val_set, ↓reduceIte, Nat.reduceEqDiff, v0, v2, v5, v6, v7, v8, v9] <;> rfl), (by simp only [val_set, ↓reduceIte, Nat.reduceEqDiff, v0, v2, v5, v6, v7, v8, v9] <;> rfl), (by simp only [val_set, ↓reduceIte, Nat.reduceEqDiff, v0, v2, v5, v6, v7, v8, v9] <;> rfl), (by simp only [val_set, ↓reduceIte, Nat.reduceEqDiff, v0, v2, v5, v6, v7, v8, v9] <;> rfl), (by simp only [val_set, ↓reduceIte, Nat.reduceEqDiff, v0, v2, v5, v6, v7, v8, v9] <;> rfl), (by simp only [val_set, ↓reduceIte, Nat.reduceEqDiff, v0, v2, v5, v6, v7, v8, v9] <;> rfl), W15, E15, A15, (by omega), (by simpa using hkd), (by rw [List.take_succ_eq_append_getElem hk, ha, ← List.append_assoc]; exact HM.set), (by omega), (Ext.put hW15 hX2 (Nat.le_refl _) K15 n15 W15)⟩
            · have hg13 := dec_t hg13
              refine d_sk rfl rfl ((wanted_of (b := true) rfl rfl rfl (by simp only [val_set, ↓reduceIte, Nat.reduceEqDiff, v0, v2, v5, v6, v7, v8, v9] <;> rfl)).trans rfl) ?_
              refine d_sk rfl rfl ((wanted_of (b := true) rfl rfl rfl (by simp only [val_set, ↓reduceIte, Nat.reduceEqDiff, v0, v2, v5, v6, v7, v8, v9] <;> rfl)).trans rfl) ?_
              refine d_sk rfl rfl ((wanted_of (b := true) rfl rfl rfl (by simp only [val_set, ↓reduceIte, Nat.reduceEqDiff, v0, v2, v5, v6, v7, v8, v9] <;> rfl)).trans rfl) ?_
              refine d_sk rfl rfl ((wanted_of (b := true) rfl rfl rfl (by simp only [val_set, ↓reduceIte, Nat.reduceEqDiff, v0, v2, v5, v6, v7, v8, v9] <;> rfl)).trans rfl) ?_
              refine d_rd rfl (r_pick (t := true) (by simp only [ev, envOf, val_set, ofValue, ofCell, ↓reduceIte, Nat.reduceEqDiff, v0, v2, v5, v6, v7, v8, v9] <;> rfl) (fun _ => (by simp only [ev, envOf, val_set, ofValue, ofCell, ↓reduceIte, Nat.reduceEqDiff, v0, v2, v5, v6, v7, v8, v9] <;> rfl)) (fun h => by cases h)) rfl rfl ?_
              refine d_rd rfl (r_move (by simp only [ev, envOf, val_set, ofValue, ofCell, ↓reduceIte, Nat.reduceEqDiff, v0, v2, v5, v6, v7, v8, v9] <;> rfl)) rfl rfl ?_
              refine d_sk rfl rfl ((wanted_of (b := true) rfl rfl rfl (by simp only [val_set, ↓reduceIte, Nat.reduceEqDiff, v0, v2, v5, v6, v7, v8, v9] <;> rfl)).trans rfl) ?_
              refine d_sk rfl rfl ((wanted_of (b := true) rfl rfl rfl (by simp only [val_set, ↓reduceIte, Nat.reduceEqDiff, v0, v2, v5, v6, v7, v8, v9] <;> rfl)).trans rfl) ?_
              refine d_sk rfl rfl ((wanted_of (b := true) rfl rfl rfl (by simp only [val_set, ↓reduceIte, Nat.reduceEqDiff, v0, v2, v5, v6, v7, v8, v9] <;> rfl)).trans rfl) ?_
              refine d_sk rfl rfl ((wanted_of (b := true) rfl rfl rfl (by simp only [val_set, ↓reduceIte, Nat.reduceEqDiff, v0, v2, v5, v6, v7, v8, v9] <;> rfl)).trans rfl) ?_
              refine d_sk rfl rfl ((wanted_of (b := true) rfl rfl rfl (by simp only [val_set, ↓reduceIte, Nat.reduceEqDiff, v0, v2, v5, v6, v7, v8, v9] <;> rfl)).trans rfl) ?_
              refine d_sk rfl rfl ((wanted_of (b := true) rfl rfl rfl (by simp only [val_set, ↓reduceIte, Nat.reduceEqDiff, v0, v2, v5, v6, v7, v8, v9] <;> rfl)).trans rfl) ?_
              refine d_sk rfl rfl ((wanted_of (b := true) rfl rfl rfl (by simp only [val_set, ↓reduceIte, Nat.reduceEqDiff, v0, v2, v5, v6, v7, v8, v9] <;> rfl)).trans rfl) ?_
              refine d_sk rfl rfl ((wanted_of (b := true) rfl rfl rfl (by simp only [val_set, ↓reduceIte, Nat.reduceEqDiff, v0, v2, v5, v6, v7, v8, v9] <;> rfl)).trans rfl) ?_
              refine d_sk rfl rfl ((wanted_of (b := true) rfl rfl rfl (by simp only [val_set, ↓reduceIte, Nat.reduceEqDiff, v0, v2, v5, v6, v7, v8, v9] <;> rfl)).trans rfl) ?_
              refine d_rd rfl (r_pick (t := true) (by simp only [ev, envOf, val_set, ofValue, ofCell, ↓reduceIte, Nat.reduceEqDiff, v0, v2, v5, v6, v7, v8, v9] <;> rfl) (fun _ => (by simp only [ev, envOf, val_set, ofValue, ofCell, ↓reduceIte, Nat.reduceEqDiff, v0, v2, v5, v6, v7, v8, v9] <;> rfl)) (fun h => by cases h)) rfl rfl ?_
              refine d_nil ?_
              refine w_cond (t := true) (by simp only [ev, envOf, val_set, ofValue, ofCell, ↓reduceIte, Nat.reduceEqDiff, v0, v2, v5, v6, v7, v8, v9] <;> rfl) (fun _ => ?_) (fun h => by cases h)
              refine w_seq ?_
              refine w_region ?_
              refine o_rd (r_assign (by simp only [ev, envOf, val_set, ofValue, ofCell, ↓reduceIte, Nat.reduceEqDiff, v0, v2, v5, v6, v7, v8, v9] <;> rfl)) rfl rfl ?_
              refine o_nil ?_
              refine w_ret ⟨.inr rfl, rfl, .bool (false), (show resultA Tryd.prog [.tmp 2] _ = _ by simp only [resultA, resultsA, envOf, val_set, ↓reduceIte, Nat.reduceEqDiff, Option.map_some, v0, v2, v5, v6, v7, v8, v9] <;> rfl), ?_⟩
              try dsimp only
              exfalso; omega
          · have hg12 := dec_t hg12
            refine d_sk rfl rfl ((wanted_of (b := true) rfl rfl rfl (by simp only [val_set, ↓reduceIte, Nat.reduceEqDiff, v0, v2, v5, v6, v7, v8, v9] <;> rfl)).trans rfl) ?_
            refine d_sk rfl rfl ((wanted_of (b := true) rfl rfl rfl (by simp only [val_set, ↓reduceIte, Nat.reduceEqDiff, v0, v2, v5, v6, v7, v8, v9] <;> rfl)).trans rfl) ?_
            refine d_sk rfl rfl ((wanted_of (b := true) rfl rfl rfl (by simp only [val_set, ↓reduceIte, Nat.reduceEqDiff, v0, v2, v5, v6, v7, v8, v9] <;> rfl)).trans rfl) ?_
            refine d_rd rfl (r_pick (t := true) (by simp only [ev, envOf, val_set, ofValue, ofCell, ↓reduceIte, Nat.reduceEqDiff, v0, v2, v5, v6, v7, v8, v9] <;> rfl) (fun _ => (by simp only [ev, envOf, val_set, ofValue, ofCell, ↓reduceIte, Nat.reduceEqDiff, v0, v2, v5, v6, v7, v8, v9] <;> rfl)) (fun h => by cases h)) rfl rfl ?_
            refine d_rd rfl (r_move (by simp only [ev, envOf, val_set, ofValue, ofCell, ↓reduceIte, Nat.reduceEqDiff, v0, v2, v5, v6, v7, v8, v9] <;> rfl)) rfl rfl ?_
            refine d_sk rfl rfl ((wanted_of (b := true) rfl rfl rfl (by simp only [val_set, ↓reduceIte, Nat.reduceEqDiff, v0, v2, v5, v6, v7, v8, v9] <;> rfl)).trans rfl) ?_
            refine d_sk rfl rfl ((wanted_of (b := true) rfl rfl rfl (by simp only [val_set, ↓reduceIte, Nat.reduceEqDiff, v0, v2, v5, v6, v7, v8, v9] <;> rfl)).trans rfl) ?_
            refine d_sk rfl rfl ((wanted_of (b := true) rfl rfl rfl (by simp only [val_set, ↓reduceIte, Nat.reduceEqDiff, v0, v2, v5, v6, v7, v8, v9] <;> rfl)).trans rfl) ?_
            refine d_sk rfl rfl ((wanted_of (b := true) rfl rfl rfl (by simp only [val_set, ↓reduceIte, Nat.reduceEqDiff, v0, v2, v5, v6, v7, v8, v9] <;> rfl)).trans rfl) ?_
            refine d_rd rfl (r_pick (t := true) (by simp only [ev, envOf, val_set, ofValue, ofCell, ↓reduceIte, Nat.reduceEqDiff, v0, v2, v5, v6, v7, v8, v9] <;> rfl) (fun _ => (by simp only [ev, envOf, val_set, ofValue, ofCell, ↓reduceIte, Nat.reduceEqDiff, v0, v2, v5, v6, v7, v8, v9] <;> rfl)) (fun h => by cases h)) rfl rfl ?_
            refine d_rd rfl (r_move (by simp only [ev, envOf, val_set, ofValue, ofCell, ↓reduceIte, Nat.reduceEqDiff, v0, v2, v5, v6, v7, v8, v9] <;> rfl)) rfl rfl ?_
            refine d_sk rfl rfl ((wanted_of (b := true) rfl rfl rfl (by simp only [val_set, ↓reduceIte, Nat.reduceEqDiff, v0, v2, v5, v6, v7, v8, v9] <;> rfl)).trans rfl) ?_
            refine d_sk rfl rfl ((wanted_of (b := true) rfl rfl rfl (by simp only [val_set, ↓reduceIte, Nat.reduceEqDiff, v0, v2, v5, v6, v7, v8, v9] <;> rfl)).trans rfl) ?_
            refine d_sk rfl rfl ((wanted_of (b := true) rfl rfl rfl (by simp only [val_set, ↓reduceIte, Nat.reduceEqDiff, v0, v2, v5, v6, v7, v8, v9] <;> rfl)).trans rfl) ?_
            refine d_sk rfl rfl ((wanted_of (b := true) rfl rfl rfl (by simp only [val_set, ↓reduceIte, Nat.reduceEqDiff, v0, v2, v5, v6, v7, v8, v9] <;> rfl)).trans rfl) ?_
            refine d_sk rfl rfl ((wanted_of (b := true) rfl rfl rfl (by simp only [val_set, ↓reduceIte, Nat.reduceEqDiff, v0, v2, v5, v6, v7, v8, v9] <;> rfl)).trans rfl) ?_
            refine d_sk rfl rfl ((wanted_of (b := true) rfl rfl rfl (by simp only [val_set, ↓reduceIte, Nat.reduceEqDiff, v0, v2, v5, v6, v7, v8, v9] <;> rfl)).trans rfl) ?_
            refine d_sk rfl rfl ((wanted_of (b := true) rfl rfl rfl (by simp only [val_set, ↓reduceIte, Nat.reduceEqDiff, v0, v2, v5, v6, v7, v8, v9] <;> rfl)).trans rfl) ?_
            refine d_sk rfl rfl ((wanted_of (b := true) rfl rfl rfl (by simp only [val_set, ↓reduceIte, Nat.reduceEqDiff, v0, v2, v5, v6, v7, v8, v9] <;> rfl)).trans rfl) ?_
            refine d_sk rfl rfl ((wanted_of (b := true) rfl rfl rfl (by simp only [val_set, ↓reduceIte, Nat.reduceEqDiff, v0, v2, v5, v6, v7, v8, v9] <;> rfl)).trans rfl) ?_
            refine d_rd rfl (r_pick (t := true) (by simp only [ev, envOf, val_set, ofValue, ofCell, ↓reduceIte, Nat.reduceEqDiff, v0, v2, v5, v6, v7, v8, v9] <;> rfl) (fun _ => (by simp only [ev, envOf, val_set, ofValue, ofCell, ↓reduceIte, Nat.reduceEqDiff, v0, v2, v5, v6, v7, v8, v9] <;> rfl)) (fun h => by cases h)) rfl rfl ?_
            refine d_nil ?_
            refine w_cond (t := true) (by simp only [ev, envOf, val_set, ofValue, ofCell, ↓reduceIte, Nat.reduceEqDiff, v0, v2, v5, v6, v7, v8, v9] <;> rfl) (fun _ => ?_) (fun h => by cases h)
            refine w_seq ?_
            refine w_region ?_
            refine o_rd (r_assign (by simp only [ev, envOf, val_set, ofValue, ofCell, ↓reduceIte, Nat.reduceEqDiff, v0, v2, v5, v6, v7, v8, v9] <;> rfl)) rfl rfl ?_
            refine o_nil ?_
            refine w_ret ⟨.inr rfl, rfl, .bool (false), (show resultA Tryd.prog [.tmp 2] _ = _ by simp only [resultA, resultsA, envOf, val_set, ↓reduceIte, Nat.reduceEqDiff, Option.map_some, v0, v2, v5, v6, v7, v8, v9] <;> rfl), ?_⟩
            try dsimp only
            exfalso; omega
        · have hc11 := dec_f hB11
          first | refine w_exit (blk_exit ?_) | refine w_exit (show (2 = 2 → _) ∧ (2 ≠ 2 → _) from ⟨fun _ => ?_, fun c => absurd rfl c⟩)
          refine w_region ?_
          refine o_rd (r_move (by simp only [ev, envOf, val_set, ofValue, ofCell, ↓reduceIte, Nat.reduceEqDiff, v0, v2, v5, v6, v7, v8, v9] <;> rfl)) rfl rfl ?_
          refine o_rd (r_addE (a := ((i : Nat) : Int)) (b := 1) (c := ((i + 1 : Nat) : Int)) (by simp only [ev, envOf, val_set, ofValue, ofCell, ↓reduceIte, Nat.reduceEqDiff, v0, v2, v5, v6, v7, v8, v9] <;> rfl) (by simp only [ev, envOf, val_set, ofValue, ofCell, ↓reduceIte, Nat.reduceEqDiff, v0, v2, v5, v6, v7, v8, v9] <;> rfl) (by omega) (by omega) (by omega)) rfl rfl ?_
          refine o_rd (r_assign (by simp only [ev, envOf, val_set, ofValue, ofCell, ↓reduceIte, Nat.reduceEqDiff, v0, v2, v5, v6, v7, v8, v9] <;> rfl)) rfl rfl ?_
          refine o_nil ?_
          exact ⟨l.length - (i + 1), (by omega), _, H10, i + 1, kd, mn, rfl, (by simp only [val_set, ↓reduceIte, Nat.reduceEqDiff, v0, v2, v5, v6, v7, v8, v9] <;> rfl), (by simp only [val_set, ↓reduceIte, Nat.reduceEqDiff, v0, v2, v5, v6, v7, v8, v9] <;> rfl), (by simp only [val_set, ↓reduceIte, Nat.reduceEqDiff, v0, v2, v5, v6, v7, v8, v9] <;> rfl), (by simp only [val_set, ↓reduceIte, Nat.reduceEqDiff, v0, v2, v5, v6, v7, v8, v9] <;> rfl), (by simp only [val_set, ↓reduceIte, Nat.reduceEqDiff, v0, v2, v5, v6, v7, v8, v9] <;> rfl), (by simp only [val_set, ↓reduceIte, Nat.reduceEqDiff, v0, v2, v5, v6, v7, v8, v9] <;> rfl), W10, E10, A7, (by omega), hkd, (by rw [kidsOf_take hi]; rw [show k = l[i].ks.length by omega, List.take_length] at HM; exact HM), (by rw [kidsOf_take hi, List.length_append]; omega), hX2⟩
      · have hc9 := dec_f hB9
        first | refine w_exit (blk_exit ?_) | refine w_exit (show (0 = 0 → _) ∧ (0 ≠ 0 → _) from ⟨fun _ => ?_, fun c => absurd rfl c⟩)
        refine w_seq ?_
        refine w_region ?_
        refine o_rd (r_move (by simp only [ev, envOf, val_set, ofValue, ofCell, ↓reduceIte, Nat.reduceEqDiff, v0, v2, v5, v6, v7, v8] <;> rfl)) rfl rfl ?_
        refine o_rd (r_move (by simp only [ev, envOf, val_set, ofValue, ofCell, ↓reduceIte, Nat.reduceEqDiff, v0, v2, v5, v6, v7, v8] <;> rfl)) rfl rfl ?_
        refine o_rd (r_len (n := l.length) Tryd.underlying28 (by simp only [ev, envOf, val_set, ofValue, ofCell, ↓reduceIte, Nat.reduceEqDiff, v0, v2, v5, v6, v7, v8] <;> rfl) hL.lenOf) rfl rfl ?_
        refine o_rd (r_subE (a := ((l.length : Nat) : Int)) (b := 1) (c := ((l.length : Nat) : Int) - 1) (by simp only [ev, envOf, val_set, ofValue, ofCell, ↓reduceIte, Nat.reduceEqDiff, v0, v2, v5, v6, v7, v8] <;> rfl) (by simp only [ev, envOf, val_set, ofValue, ofCell, ↓reduceIte, Nat.reduceEqDiff, v0, v2, v5, v6, v7, v8] <;> rfl) (by omega) (by omega) (by omega)) rfl rfl ?_
        refine o_rd (r_eq (a := mn) (b := ((l.length : Nat) : Int) - 1) (by simp only [ev, envOf, val_set, ofValue, ofCell, ↓reduceIte, Nat.reduceEqDiff, v0, v2, v5, v6, v7, v8] <;> rfl) (by simp only [ev, envOf, val_set, ofValue, ofCell, ↓reduceIte, Nat.reduceEqDiff, v0, v2, v5, v6, v7, v8] <;> rfl)) rfl rfl ?_
        refine o_rd (r_assign (by simp only [ev, envOf, val_set, ofValue, ofCell, ↓reduceIte, Nat.reduceEqDiff, v0, v2, v5, v6, v7, v8] <;> rfl)) rfl rfl ?_
        refine o_nil ?_
        refine w_ret ⟨.inr rfl, rfl, .bool (decide (mn = ((l.length : Nat) : Int) - 1)), (show resultA Tryd.prog [.tmp 2] _ = _ by simp only [resultA, resultsA, envOf, val_set, ↓reduceIte, Nat.reduceEqDiff, Option.map_some, v0, v2, v5, v6, v7, v8] <;> rfl), ?_⟩
        try dsimp only
        rw [show i = l.length by omega, List.take_length] at hmn
        exact ⟨congrArg AV.bool (decide_eq_true (by omega)), E8⟩
end Go.Proofs.YtpdphdbphhaekaaDoor.Vs
