/-
  Whether nodes are a program's tree.
-/
import Derived.Test.YtpdphdbphhaekaaDoorTree7
set_option autoImplicit false
set_option linter.unusedVariables false
set_option linter.unusedSimpArgs false
namespace Go.Proofs.YtpdphdbphhaekaaDoor.Vs
open Go.VI Go.Proofs
variable {orc : CallF}
theorem kidsGo_range {l : List ND} {v : ND} {fs : List Int} {i : Nat} (hf : ∀ j, (h : j < fs.length) → fs[j] ≤ j ∧ 0 ≤ fs[j]) : ∀ (k : Nat) (next : Int), next < i → kidsGo l v fs k next = true → ∀ j, (h : j < v.ks.length) → j < k → 0 ≤ v.ks[j] ∧ v.ks[j] < i
  | 0, _, _, _, j, _, hj => by omega
  | k + 1, next, hn, h, j, hjl, hj => by
    simp only [kidsGo] at h
    cases hk : v.ks[k]? with
    | none => rw [hk] at h; cases h
    | some kid =>
      rw [hk] at h
      simp only at h
      obtain ⟨hkl, hkv⟩ := List.getElem?_eq_some_iff.1 hk
      by_cases c : kid < 0 ∨ kid ≠ next
      · rw [if_pos c] at h; cases h
      · rw [if_neg c] at h
        cases hw : l[kid.toNat]? with
        | none => rw [hw] at h; cases h
        | some w =>
          rw [hw] at h
          simp only at h
          by_cases d : fitsP v w k
          · rw [if_pos d] at h
            by_cases e : j = k
            · subst e; rw [hkv]; omega
            · refine kidsGo_range hf k _ ?_ h j hjl (by omega)
              by_cases q : kid.toNat < fs.length
              · have := hf _ q
                rw [List.getD_eq_getElem?_getD, List.getElem?_eq_getElem q]
                simp only [Option.getD_some]; omega
              · rw [List.getD_eq_getElem?_getD, List.getElem?_eq_none (by omega)]
                simp only [Option.getD_none]; omega
          · rw [if_neg d] at h; cases h
theorem kidsB_range {l : List ND} {fs : List Int} {i : Nat} (hi : i < l.length) (hf : ∀ j, (h : j < fs.length) → fs[j] ≤ j ∧ 0 ≤ fs[j]) (h : kidsB l i fs = true) : ∀ k, (h : k < l[i].ks.length) → 0 ≤ l[i].ks[k] ∧ l[i].ks[k] < i := by
  intro k hk
  rw [kidsB_at hi] at h
  split at h
  · cases h
  · exact kidsGo_range hf _ _ (by omega) h k hk hk
theorem kidsB_least {l : List ND} {fs : List Int} {i : Nat} (hi : i < l.length) (h : kidsB l i fs = true) : (wantsF l[i].k l[i].n 0 l[i].ks.length).2.1 ≤ l[i].ks.length ∧ (l[i].ks.length : Int) ≤ (wantsF l[i].k l[i].n 0 l[i].ks.length).2.2 := by
  rw [kidsB_at hi] at h
  split at h
  · cases h
  · omega
theorem goesOn_step {l : List ND} {fs : List Int} {i : Nat} (hi : i < l.length) (hf : ∀ j, (h : j < fs.length) → fs[j] ≤ j ∧ 0 ≤ fs[j]) (h : kidsB l i fs = true) (G : GoesOn l i) : GoesOn l (i + 1) := by
  intro j hj hji h1 h2
  by_cases e : j = i
  · subst e
    have hr := kidsB_range hi hf h
    have hl := (kidsB_least hi h).1
    have hp : 0 < l[j].ks.length := by
      have : (1 : Int) ≤ (wantsF l[j].k l[j].n 0 l[j].ks.length).2.1 := by
        rcases (by omega : l[j].k = 22 ∨ l[j].k = 23 ∨ l[j].k = 24 ∨ l[j].k = 25) with e | e | e | e <;> simp [wantsF, e]
      omega
    have h0 := hr 0 hp
    refine ⟨l[j].ks[0].toNat, l[j].ks.tail, ?_, by omega⟩
    have : ((l[j].ks[0].toNat : Nat) : Int) = l[j].ks[0] := by omega
    rw [this]
    generalize l[j].ks = ks at hp
    cases ks with
    | nil => simp at hp
    | cons a r => rfl
  · exact G j hj (by omega) h1 h2
theorem send_has {l : List ND} {fs : List Int} {i : Nat} (hi : i < l.length) (h : kidsB l i fs = true) : l[i].k = 44 → 0 < l[i].ks.length := by
  intro c
  have hl := (kidsB_least hi h).1
  have : (1 : Int) ≤ (wantsF l[i].k l[i].n 0 l[i].ks.length).2.1 := by
    have e : wantsF l[i].k l[i].n 0 l[i].ks.length = if (0 : Int) = l[i].ks.length - 1 then (3, 3, 3) else (1, 3, 3) := by rw [c]; rfl
    rw [e]
    split <;> simp
  omega
/-- what is wrong with a node, or 0 -/
def errC (tx : Nat → List UInt8) (l : List ND) (i : Nat) (fs : List Int) : Int := match l[i]? with
  | none => 0
  | some v => if ¬ knownP v.k ∨ v.at_ < 0 then 20 else if numB v.k v.n v.ks.length = false then 23 else if nameB tx v = false then 22 else if kidsB l i fs = false then 21 else if levelsB l i = false then 24 else 0
/-- the first node below a node -/
def firstC (l : List ND) (i : Nat) (fs : List Int) : Int := match l[i]? with
  | none => i
  | some v => match v.ks with
    | [] => i
    | a :: _ => fs.getD a.toNat 0
/-- the check from node i on, of m nodes -/
def checkGo (tx : Nat → List UInt8) (l : List ND) : Nat → Nat → List Int → Int × Int
  | 0, _, fs => match l.getLast? with
    | none => (l.length, 25)
    | some v => if v.k = 46 ∧ fs.getLast? = some 0 then (0, 0) else (l.length, 25)
  | m + 1, i, fs => if errC tx l i fs = 0 then checkGo tx l m (i + 1) (fs.set i (firstC l i fs)) else (i, errC tx l i fs)
def checkB (tx : Nat → List UInt8) (l : List ND) : Int × Int := checkGo tx l l.length 0 (List.replicate l.length 0)
theorem errC_at {tx : Nat → List UInt8} {l : List ND} {i : Nat} {fs : List Int} (hi : i < l.length) : errC tx l i fs = if ¬ knownP l[i].k ∨ l[i].at_ < 0 then 20 else if numB l[i].k l[i].n l[i].ks.length = false then 23 else if nameB tx l[i] = false then 22 else if kidsB l i fs = false then 21 else if levelsB l i = false then 24 else 0 := by
  simp only [errC, List.getElem?_eq_getElem hi]
theorem firstC_nil {l : List ND} {i : Nat} {fs : List Int} (hi : i < l.length) (h : ¬ 0 < l[i].ks.length) : firstC l i fs = i := by
  simp only [firstC, List.getElem?_eq_getElem hi]
  generalize l[i].ks = ks at h
  cases ks with
  | nil => rfl
  | cons a r => simp at h
theorem firstC_at {l : List ND} {i a : Nat} {fs : List Int} (hi : i < l.length) (h : 0 < l[i].ks.length) (ha : l[i].ks[0] = (a : Int)) (hf : a < fs.length) : firstC l i fs = fs[a] := by
  simp only [firstC, List.getElem?_eq_getElem hi]
  generalize l[i].ks = ks at h ha
  cases ks with
  | nil => simp at h
  | cons b r =>
    simp only [List.getElem_cons_zero] at ha
    subst ha
    simp [List.getD_eq_getElem?_getD, List.getElem?_eq_getElem hf]
theorem checkGo_ok {tx : Nat → List UInt8} {l : List ND} {m i : Nat} {fs : List Int} (hm : 0 < m) (h : errC tx l i fs = 0) {x : Int} (hx : firstC l i fs = x) : checkGo tx l m i fs = checkGo tx l (m - 1) (i + 1) (fs.set i x) := by
  obtain ⟨m, rfl⟩ : ∃ k, m = k + 1 := ⟨m - 1, by omega⟩
  simp only [checkGo]
  rw [if_pos h, hx]; rfl
theorem checkGo_bad {tx : Nat → List UInt8} {l : List ND} {m i : Nat} {fs : List Int} {c : Int} (hm : 0 < m) (h : errC tx l i fs = c) (hc : c ≠ 0) : checkGo tx l m i fs = ((i : Int), c) := by
  obtain ⟨m, rfl⟩ : ∃ k, m = k + 1 := ⟨m - 1, by omega⟩
  simp only [checkGo]
  rw [if_neg (by omega), h]
theorem checkGo_end {tx : Nat → List UInt8} {l : List ND} {q i : Nat} {fs : List Int} (h : q + 1 = l.length) (hf : q < fs.length) (hl : fs.length = l.length) : checkGo tx l 0 i fs = if (l[q]'(by omega)).k = 46 ∧ fs[q] = 0 then (0, 0) else ((l.length : Int), 25) := by
  have e1 : l.getLast? = some (l[q]'(by omega)) := by rw [List.getLast?_eq_getElem?, show l.length - 1 = q by omega]; exact List.getElem?_eq_getElem _
  have e2 : fs.getLast? = some fs[q] := by rw [List.getLast?_eq_getElem?, show fs.length - 1 = q by omega]; exact List.getElem?_eq_getElem _
  simp only [checkGo, e1, e2, Option.some.injEq]
theorem checkGo_none {tx : Nat → List UInt8} {l : List ND} {i : Nat} {fs : List Int} (h : l.length = 0) : checkGo tx l 0 i fs = ((l.length : Int), 25) := by
  obtain rfl := List.length_eq_zero_iff.1 h
  rfl
theorem set_le {fs : List Int} {i : Nat} {x : Int} (hf : ∀ j, (h : j < fs.length) → fs[j] ≤ j ∧ 0 ≤ fs[j]) (h1 : x ≤ i) (h2 : 0 ≤ x) : ∀ j, (h : j < (fs.set i x).length) → (fs.set i x)[j] ≤ j ∧ 0 ≤ (fs.set i x)[j] := by
  intro j h
  rw [List.getElem_set]
  split
  · omega
  · exact hf j (by simpa using h)
theorem reps_int {n : Nat} : reps n [.int .i64 0] = (List.replicate n (0 : Int)).map (AV.int .i64) := by
  induction n with
  | zero => rfl
  | succ n ih => simp only [reps, List.replicate_succ, List.flatten_cons, List.map_cons] at *; rw [ih]; rfl
theorem put_int {fs : List Int} {i : Nat} {x : Int} (h : i < fs.length) : splice (fs.map (AV.int .i64)) (0 + i * 1) [.int .i64 x] = (fs.set i x).map (AV.int .i64) := by
  unfold splice
  rw [List.set_eq_take_append_cons_drop, if_pos h]
  simp [List.map_take, List.map_drop]
theorem SI.row {H : AH} {b t : Nat} {fs : List Int} (h : H.at b = some (.row (fs.map (AV.int .i64)) t false none)) {n : Nat} (hn : fs.length = n) (hb : n ≤ 4611686018427387904) : SI H fs (.sl (.mt b) 0 n n) := by
  subst hn
  refine .sl fs (.mt b) 0 fs.length ?_ (Nat.le_refl _) hb
  rw [read_mt h (by simp), List.drop_zero, List.take_of_length_le (by simp)]
theorem SI.cell {H : AH} {b t a : Nat} {fs : List Int} (h : H.at b = some (.row (fs.map (AV.int .i64)) t false none)) (ha : a < fs.length) : H.read (.mt b) (0 + a * 1) 1 = some [.int .i64 fs[a]] := by
  rw [read_mt h (by simp; omega)]
  congr 1
  apply List.ext_getElem
  · simp; omega
  · intro j h1 h2
    simp at h1 h2
    obtain rfl : j = 0 := by omega
    simp
set_option maxRecDepth 100000 in
set_option maxHeartbeats 4000000 in
theorem check_fin (ho : NoOrcBut [8, 64, 65] orc) {H0 : AH} (W0 : Wf H0) (ho64 : ∃ sg, ∀ H, orc 64 [] H = some (.ret sg, H)) (tx : Nat → List UInt8) (ho65 : ∀ k : Nat, k < 67 → ∀ H, orc 65 [.int .i64 (k : Int)] H = some (.ret (.str (tx k)), H)) (l : List ND) (sl : AV) (hL : NS H0 l sl) (hll : l.length ≤ 2147483647) (hnm : ∀ j, (h : j < l.length) → l[j].nm.length ≤ 4611686018427387904) : Fin Tryd.prog orc 14 [sl] H0 (fun r H' => r = .tup [.int .i64 (checkB tx l).1, .int .i64 (checkB tx l).2] ∧ Ext H0 H') := by
  have E0 := Ext.refl W0
  refine fin_of Tryd.func14 rfl (by rw [Tryd.ntmps14]; simp) (ho _ rfl _ _) ?_
  rw [Tryd.ntmps14]
  refine w_seq ?_
  refine w_region ?_
  refine o_rd (r_assign (by simp only [ev, envOf, val_set, ofValue, ofCell, ↓reduceIte, Nat.reduceEqDiff] <;> rfl)) rfl rfl ?_
  refine o_rd (r_assign (by simp only [ev, envOf, val_set, ofValue, ofCell, ↓reduceIte, Nat.reduceEqDiff] <;> rfl)) rfl rfl ?_
  refine o_nil ?_
  refine w_seq ?_
  refine w_region ?_
  refine o_rd (r_move (by simp only [ev, envOf, val_set, ofValue, ofCell, ↓reduceIte, Nat.reduceEqDiff] <;> rfl)) rfl rfl ?_
  refine o_rd (r_len (n := l.length) Tryd.underlying28 (by simp only [ev, envOf, val_set, ofValue, ofCell, ↓reduceIte, Nat.reduceEqDiff] <;> rfl) hL.lenOf) rfl rfl ?_
  refine o_nw W0 (a_makeSlice (m := l.length) (p := l.length) Tryd.underlying22 Ty.csz3 Ty.zero3 Ty.byt3 rfl (by simp only [ev, envOf, val_set, ofValue, ofCell, ↓reduceIte, Nat.reduceEqDiff] <;> rfl) (by simp only [ev, envOf, val_set, ofValue, ofCell, ↓reduceIte, Nat.reduceEqDiff] <;> rfl) (Nat.le_refl _) (by omega)) rfl rfl rfl (by simp) ?_; intro H1 n1 W1 X1 A1
  have A1 : H1.at H0.n = some (.row ((List.replicate l.length (0 : Int)).map (AV.int .i64)) 3 false none) := by rw [← reps_int]; exact A1
  have E1 := E0.trans X1
  refine o_rd (r_assign (by simp only [ev, envOf, val_set, ofValue, ofCell, ↓reduceIte, Nat.reduceEqDiff] <;> rfl)) rfl rfl ?_
  refine o_nil ?_
  refine w_seq ?_
  refine w_seq ?_
  refine w_region ?_
  refine o_rd (r_move (by simp only [ev, envOf, val_set, ofValue, ofCell, ↓reduceIte, Nat.reduceEqDiff] <;> rfl)) rfl rfl ?_
  refine o_rd (r_len (n := l.length) Tryd.underlying28 (by simp only [ev, envOf, val_set, ofValue, ofCell, ↓reduceIte, Nat.reduceEqDiff] <;> rfl) hL.lenOf) rfl rfl ?_
  refine o_rd (r_move (by simp only [ev, envOf, val_set, ofValue, ofCell, ↓reduceIte, Nat.reduceEqDiff] <;> rfl)) rfl rfl ?_
  refine o_nil ?_
  refine w_block ?_
  refine w_loop (fun m s => ∃ (e : Env) (H : AH) (i : Nat) (fs : List Int), s = ⟨e, H, []⟩ ∧ e.val 0 = sl ∧ e.val 2 = .int .i64 (0) ∧ e.val 3 = .int .i64 (0) ∧ e.val 4 = .sl (.mt H0.n) (0) (l.length) l.length ∧ e.val 11 = sl ∧ e.val 12 = .int .i64 (((l.length : Nat) : Int)) ∧ e.val 13 = .int .i64 (((i : Nat) : Int)) ∧ Wf H ∧ Ext H0 H ∧ H.at (H0.n) = some (.row (fs.map (AV.int .i64)) 3 false none) ∧ (i + m = l.length) ∧ (fs.length = l.length) ∧ (∀ j, (h : j < fs.length) → fs[j] ≤ j ∧ 0 ≤ fs[j]) ∧ (GoesOn l i) ∧ (checkB tx l = checkGo tx l m i fs)) (l.length) ⟨_, H1, 0, List.replicate l.length 0, rfl, (by simp only [val_set, ↓reduceIte, Nat.reduceEqDiff] <;> rfl), (by simp only [val_set, ↓reduceIte, Nat.reduceEqDiff] <;> rfl), (by simp only [val_set, ↓reduceIte, Nat.reduceEqDiff] <;> rfl), (by simp only [val_set, ↓reduceIte, Nat.reduceEqDiff] <;> rfl), (by simp only [val_set, ↓reduceIte, Nat.reduceEqDiff] <;> rfl), (by simp only [val_set, ↓reduceIte, Nat.reduceEqDiff] <;> rfl), (by simp only [val_set, ↓reduceIte, Nat.reduceEqDiff] <;> rfl), W1, E1, A1, (by omega), (by simp), (by intro j h; simp), (by intro j h hj; omega), rfl⟩ ?_
  intro m s hi
  obtain ⟨e, H2, i, fs, rfl, v0, v2, v3, v4, v11, v12, v13, W2, E2, A1, him, hfl, hfs, G, hgo⟩ := hi
  have l2_0 := W2.lt A1
  refine w_seq ?_
  refine w_region ?_
  refine o_rd (r_lt (a := ((i : Nat) : Int)) (b := ((l.length : Nat) : Int)) (by simp only [ev, envOf, val_set, ofValue, ofCell, ↓reduceIte, Nat.reduceEqDiff, v0, v2, v3, v4, v11, v12, v13] <;> rfl) (by simp only [ev, envOf, val_set, ofValue, ofCell, ↓reduceIte, Nat.reduceEqDiff, v0, v2, v3, v4, v11, v12, v13] <;> rfl)) rfl rfl ?_
  refine o_nil ?_
  refine w_seq ?_
  refine w_cond (by simp only [ev, envOf, val_set, ofValue, ofCell, ↓reduceIte, Nat.reduceEqDiff, v0, v2, v3, v4, v11, v12, v13] <;> rfl) (fun hB3 => ?_) (fun hB3 => ?_)
  · have hc3 := dec_t hB3
    refine w_skip ?_
    refine w_seq ?_
    refine w_block ?_
    refine w_seq ?_
    refine w_region ?_
    have hi : i < l.length := by omega
    obtain ⟨loc1, off1, cap1, sk, rfl, hr1, hK⟩ := hL.get hi
    have hkb := hK.bound; have hni := hnm i hi; have herr := errC_at (tx := tx) (fs := fs) hi
    refine o_rd (r_move (by simp only [ev, envOf, val_set, ofValue, ofCell, ↓reduceIte, Nat.reduceEqDiff, v0, v2, v3, v4, v11, v12, v13] <;> rfl)) rfl rfl ?_
    refine o_rd (r_indexAddr Tryd.underlying28 Ty.csz24 (by simp only [ev, envOf, val_set, ofValue, ofCell, ↓reduceIte, Nat.reduceEqDiff, v0, v2, v3, v4, v11, v12, v13] <;> rfl) (by simp only [ev, envOf, val_set, ofValue, ofCell, ↓reduceIte, Nat.reduceEqDiff, v0, v2, v3, v4, v11, v12, v13] <;> rfl) hi) rfl rfl ?_
    refine o_rd (r_loadN Ty.agg24 Ty.csz24 (by simp only [ev, envOf, val_set, ofValue, ofCell, ↓reduceIte, Nat.reduceEqDiff, v0, v2, v3, v4, v11, v12, v13] <;> rfl) (Ext.read (H := H0) (by assumption) hr1)) rfl rfl ?_
    refine o_nw W2 (a_alloc Ty.zero24) rfl rfl rfl (by simp) ?_; intro H4 n4 W4 X4 A4
    have A4 : H4.at H2.n = some (.row [.int .i64 (0), .int .i64 (0), .nils, .str ([]), .int .i64 (0)] 24 false none) := A4
    have E4 := E2.trans X4
    have g4 : H0.n ≤ H2.n := E2.n
    have A1 := X4.keep _ _ A1
    refine o_rd (r_assign (by simp only [ev, envOf, val_set, ofValue, ofCell, ↓reduceIte, Nat.reduceEqDiff, v0, v2, v3, v4, v11, v12, v13] <;> rfl)) rfl rfl ?_
    refine o_st W4 (by simp only [ev, envOf, val_set, ofValue, ofCell, ↓reduceIte, Nat.reduceEqDiff, v0, v2, v3, v4, v11, v12, v13] <;> rfl) (by simp only [ev, envOf, val_set, ofValue, ofCell, ↓reduceIte, Nat.reduceEqDiff, v0, v2, v3, v4, v11, v12, v13] <;> rfl) A4 Ty.csz24 rfl (Nat.le_of_ble_eq_true rfl) (by first | rfl | (exact (NA.of hK).ones)) rfl rfl ?_; intro H5 n5 W5 A5 K5
    have A5 : H5.at H2.n = some (.row [.int .i64 (l[i].k), .int .i64 (l[i].at_), sk, .str (l[i].nm), .int .i64 (l[i].n)] 24 false none) := A5
    have E5 := Ext.put W0 E4 (by have := E4.n; omega) K5 n5 W5
    have A1 := K5.own A1 (by omega)
    refine o_nil ?_
    refine w_seq ?_
    refine w_block ?_
    refine w_seq ?_
    refine w_region ?_
    refine o_rd (r_fieldAddr Ty.fo24_0 (by simp only [ev, envOf, val_set, ofValue, ofCell, ↓reduceIte, Nat.reduceEqDiff, v0, v2, v3, v4, v11, v12, v13] <;> rfl)) rfl rfl ?_
    refine o_rd (r_load1 (v := .int .i64 (l[i].k)) Ty.agg3 (by simp only [ev, envOf, val_set, ofValue, ofCell, ↓reduceIte, Nat.reduceEqDiff, v0, v2, v3, v4, v11, v12, v13] <;> rfl) (read_mt A5 (Nat.le_of_ble_eq_true rfl))) rfl rfl ?_
    refine o_cl rfl rfl (by simp only [evs, ev, envOf, val_set, ofValue, ofCell, ↓reduceIte, Nat.reduceEqDiff, v0, v2, v3, v4, v11, v12, v13] <;> rfl) rfl (known_fin ho W5 (l[i].k)) rfl rfl ?_; rintro _ H6 ⟨rfl, X6⟩
    have W6 := X6.wf; have E6 := E5.trans X6
    have A1 := X6.keep _ _ A1
    have A5 := X6.keep _ _ A5
    have n6 := X6.n
    refine o_rd (r_not (by simp only [ev, envOf, val_set, ofValue, ofCell, ↓reduceIte, Nat.reduceEqDiff, v0, v2, v3, v4, v11, v12, v13] <;> rfl)) rfl rfl ?_
    refine o_rd (r_move (by simp only [ev, envOf, val_set, ofValue, ofCell, ↓reduceIte, Nat.reduceEqDiff, v0, v2, v3, v4, v11, v12, v13] <;> rfl)) rfl rfl ?_
    cases hg7 : (!(decide (knownP (l[i].k))) : Bool)
    · have hg7 := dec_t (not_f hg7)
      refine o_rd (r_fieldAddr Ty.fo24_1 (by simp only [ev, envOf, val_set, ofValue, ofCell, ↓reduceIte, Nat.reduceEqDiff, v0, v2, v3, v4, v11, v12, v13] <;> rfl)) rfl ((wanted_of (b := false) rfl rfl rfl (by simp only [val_set, ↓reduceIte, Nat.reduceEqDiff, v0, v2, v3, v4, v11, v12, v13] <;> rfl)).trans rfl) ?_
      refine o_rd (r_load1 (v := .int .i64 (l[i].at_)) Ty.agg3 (by simp only [ev, envOf, val_set, ofValue, ofCell, ↓reduceIte, Nat.reduceEqDiff, v0, v2, v3, v4, v11, v12, v13] <;> rfl) (read_mt A5 (Nat.le_of_ble_eq_true rfl))) rfl ((wanted_of (b := false) rfl rfl rfl (by simp only [val_set, ↓reduceIte, Nat.reduceEqDiff, v0, v2, v3, v4, v11, v12, v13] <;> rfl)).trans rfl) ?_
      refine o_rd (r_lt (a := l[i].at_) (b := 0) (by simp only [ev, envOf, val_set, ofValue, ofCell, ↓reduceIte, Nat.reduceEqDiff, v0, v2, v3, v4, v11, v12, v13] <;> rfl) (by simp only [ev, envOf, val_set, ofValue, ofCell, ↓reduceIte, Nat.reduceEqDiff, v0, v2, v3, v4, v11, v12, v13] <;> rfl)) rfl ((wanted_of (b := false) rfl rfl rfl (by simp only [val_set, ↓reduceIte, Nat.reduceEqDiff, v0, v2, v3, v4, v11, v12, v13] <;> rfl)).trans rfl) ?_
      refine o_rd (r_pick (t := false) (by simp only [ev, envOf, val_set, ofValue, ofCell, ↓reduceIte, Nat.reduceEqDiff, v0, v2, v3, v4, v11, v12, v13] <;> rfl) (fun h => by cases h) (fun _ => (by simp only [ev, envOf, val_set, ofValue, ofCell, ↓reduceIte, Nat.reduceEqDiff, v0, v2, v3, v4, v11, v12, v13] <;> rfl))) rfl rfl ?_
      refine o_rd (r_assign (by simp only [ev, envOf, val_set, ofValue, ofCell, ↓reduceIte, Nat.reduceEqDiff, v0, v2, v3, v4, v11, v12, v13] <;> rfl)) rfl rfl ?_
      refine o_nil ?_
      refine w_cond (by simp only [ev, envOf, val_set, ofValue, ofCell, ↓reduceIte, Nat.reduceEqDiff, v0, v2, v3, v4, v11, v12, v13] <;> rfl) (fun hB8 => ?_) (fun hB8 => ?_)
      · have hc8 := dec_t hB8
        refine w_seq ?_
        refine w_region ?_
        refine o_rd (r_move (by simp only [ev, envOf, val_set, ofValue, ofCell, ↓reduceIte, Nat.reduceEqDiff, v0, v2, v3, v4, v11, v12, v13] <;> rfl)) rfl rfl ?_
        refine o_rd (r_assign (by simp only [ev, envOf, val_set, ofValue, ofCell, ↓reduceIte, Nat.reduceEqDiff, v0, v2, v3, v4, v11, v12, v13] <;> rfl)) rfl rfl ?_
        refine o_rd (r_assign (by simp only [ev, envOf, val_set, ofValue, ofCell, ↓reduceIte, Nat.reduceEqDiff, v0, v2, v3, v4, v11, v12, v13] <;> rfl)) rfl rfl ?_
        refine o_nil ?_
        refine w_ret ⟨.inr rfl, rfl, .tup [.int .i64 (((i : Nat) : Int)), .int .i64 (20)], (show resultA Tryd.prog [.tmp 2, .tmp 3] _ = _ by simp only [resultA, resultsA, envOf, val_set, ↓reduceIte, Nat.reduceEqDiff, Option.map_some, v0, v2, v3, v4, v11, v12, v13] <;> rfl), ?_⟩
        try dsimp only
        have he : errC tx l i fs = 20 := by rw [herr]; simp [hc3, hg7, hc8]
        exact ⟨by rw [hgo, checkGo_bad (by omega) he (by omega)], E6⟩
      · have hc8 := dec_f hB8
        refine w_seq ?_
        refine w_region ?_
        refine o_rd (r_loadN (cs := [.int .i64 (l[i].k), .int .i64 (l[i].at_), sk, .str (l[i].nm), .int .i64 (l[i].n)]) Ty.agg24 Ty.csz24 (by simp only [ev, envOf, val_set, ofValue, ofCell, ↓reduceIte, Nat.reduceEqDiff, v0, v2, v3, v4, v11, v12, v13] <;> rfl) (read_mt A5 (Nat.le_of_ble_eq_true rfl))) rfl rfl ?_
        refine o_cl rfl rfl (by simp only [evs, ev, envOf, val_set, ofValue, ofCell, ↓reduceIte, Nat.reduceEqDiff, v0, v2, v3, v4, v11, v12, v13] <;> rfl) rfl (num_fin ho W6 l[i] _ (hK.ext E6)) rfl rfl ?_; rintro _ H9 ⟨rfl, X9⟩
        have W9 := X9.wf; have E9 := E6.trans X9
        have A1 := X9.keep _ _ A1
        have A5 := X9.keep _ _ A5
        have n9 := X9.n
        refine o_rd (r_not (by simp only [ev, envOf, val_set, ofValue, ofCell, ↓reduceIte, Nat.reduceEqDiff, v0, v2, v3, v4, v11, v12, v13] <;> rfl)) rfl rfl ?_
        refine o_rd (r_assign (by simp only [ev, envOf, val_set, ofValue, ofCell, ↓reduceIte, Nat.reduceEqDiff, v0, v2, v3, v4, v11, v12, v13] <;> rfl)) rfl rfl ?_
        refine o_nil ?_
        refine w_cond (by simp only [ev, envOf, val_set, ofValue, ofCell, ↓reduceIte, Nat.reduceEqDiff, v0, v2, v3, v4, v11, v12, v13] <;> rfl) (fun hB10 => ?_) (fun hB10 => ?_)
        · have hc10 := (not_t hB10)
          refine w_seq ?_
          refine w_region ?_
          refine o_rd (r_move (by simp only [ev, envOf, val_set, ofValue, ofCell, ↓reduceIte, Nat.reduceEqDiff, v0, v2, v3, v4, v11, v12, v13] <;> rfl)) rfl rfl ?_
          refine o_rd (r_assign (by simp only [ev, envOf, val_set, ofValue, ofCell, ↓reduceIte, Nat.reduceEqDiff, v0, v2, v3, v4, v11, v12, v13] <;> rfl)) rfl rfl ?_
          refine o_rd (r_assign (by simp only [ev, envOf, val_set, ofValue, ofCell, ↓reduceIte, Nat.reduceEqDiff, v0, v2, v3, v4, v11, v12, v13] <;> rfl)) rfl rfl ?_
          refine o_nil ?_
          refine w_ret ⟨.inr rfl, rfl, .tup [.int .i64 (((i : Nat) : Int)), .int .i64 (23)], (show resultA Tryd.prog [.tmp 2, .tmp 3] _ = _ by simp only [resultA, resultsA, envOf, val_set, ↓reduceIte, Nat.reduceEqDiff, Option.map_some, v0, v2, v3, v4, v11, v12, v13] <;> rfl), ?_⟩
          try dsimp only
          have he : errC tx l i fs = 23 := by rw [herr]; simp [hc3, hg7, hc8, hc10]
          exact ⟨by rw [hgo, checkGo_bad (by omega) he (by omega)], E9⟩
        · have hc10 := (not_f hB10)
          refine w_seq ?_
          refine w_region ?_
          refine o_rd (r_loadN (cs := [.int .i64 (l[i].k), .int .i64 (l[i].at_), sk, .str (l[i].nm), .int .i64 (l[i].n)]) Ty.agg24 Ty.csz24 (by simp only [ev, envOf, val_set, ofValue, ofCell, ↓reduceIte, Nat.reduceEqDiff, v0, v2, v3, v4, v11, v12, v13] <;> rfl) (read_mt A5 (Nat.le_of_ble_eq_true rfl))) rfl rfl ?_
          refine o_cl rfl rfl (by simp only [evs, ev, envOf, val_set, ofValue, ofCell, ↓reduceIte, Nat.reduceEqDiff, v0, v2, v3, v4, v11, v12, v13] <;> rfl) rfl (name_fin ho W9 ho64 tx ho65 l[i] _ hni) rfl rfl ?_; rintro _ H11 ⟨rfl, X11⟩
          have W11 := X11.wf; have E11 := E9.trans X11
          have A1 := X11.keep _ _ A1
          have A5 := X11.keep _ _ A5
          have n11 := X11.n
          refine o_rd (r_not (by simp only [ev, envOf, val_set, ofValue, ofCell, ↓reduceIte, Nat.reduceEqDiff, v0, v2, v3, v4, v11, v12, v13] <;> rfl)) rfl rfl ?_
          refine o_rd (r_assign (by simp only [ev, envOf, val_set, ofValue, ofCell, ↓reduceIte, Nat.reduceEqDiff, v0, v2, v3, v4, v11, v12, v13] <;> rfl)) rfl rfl ?_
          refine o_nil ?_
          refine w_cond (by simp only [ev, envOf, val_set, ofValue, ofCell, ↓reduceIte, Nat.reduceEqDiff, v0, v2, v3, v4, v11, v12, v13] <;> rfl) (fun hB12 => ?_) (fun hB12 => ?_)
          · have hc12 := (not_t hB12)
            refine w_seq ?_
            refine w_region ?_
            refine o_rd (r_move (by simp only [ev, envOf, val_set, ofValue, ofCell, ↓reduceIte, Nat.reduceEqDiff, v0, v2, v3, v4, v11, v12, v13] <;> rfl)) rfl rfl ?_
            refine o_rd (r_assign (by simp only [ev, envOf, val_set, ofValue, ofCell, ↓reduceIte, Nat.reduceEqDiff, v0, v2, v3, v4, v11, v12, v13] <;> rfl)) rfl rfl ?_
            refine o_rd (r_assign (by simp only [ev, envOf, val_set, ofValue, ofCell, ↓reduceIte, Nat.reduceEqDiff, v0, v2, v3, v4, v11, v12, v13] <;> rfl)) rfl rfl ?_
            refine o_nil ?_
            refine w_ret ⟨.inr rfl, rfl, .tup [.int .i64 (((i : Nat) : Int)), .int .i64 (22)], (show resultA Tryd.prog [.tmp 2, .tmp 3] _ = _ by simp only [resultA, resultsA, envOf, val_set, ↓reduceIte, Nat.reduceEqDiff, Option.map_some, v0, v2, v3, v4, v11, v12, v13] <;> rfl), ?_⟩
            try dsimp only
            have he : errC tx l i fs = 22 := by rw [herr]; simp [hc3, hg7, hc8, hc10, hc12]
            exact ⟨by rw [hgo, checkGo_bad (by omega) he (by omega)], E11⟩
          · have hc12 := (not_f hB12)
            refine w_seq ?_
            refine w_region ?_
            refine o_rd (r_move (by simp only [ev, envOf, val_set, ofValue, ofCell, ↓reduceIte, Nat.reduceEqDiff, v0, v2, v3, v4, v11, v12, v13] <;> rfl)) rfl rfl ?_
            refine o_rd (r_move (by simp only [ev, envOf, val_set, ofValue, ofCell, ↓reduceIte, Nat.reduceEqDiff, v0, v2, v3, v4, v11, v12, v13] <;> rfl)) rfl rfl ?_
            refine o_rd (r_move (by simp only [ev, envOf, val_set, ofValue, ofCell, ↓reduceIte, Nat.reduceEqDiff, v0, v2, v3, v4, v11, v12, v13] <;> rfl)) rfl rfl ?_
            refine o_cl rfl rfl (by simp only [evs, ev, envOf, val_set, ofValue, ofCell, ↓reduceIte, Nat.reduceEqDiff, v0, v2, v3, v4, v11, v12, v13] <;> rfl) rfl (kids_fin ho W11 l _ i fs _ (hL.ext E11) hi hfl (SI.row A1 hfl hL.bound) hfs) rfl rfl ?_; rintro _ H13 ⟨rfl, X13⟩
            have W13 := X13.wf; have E13 := E11.trans X13
            have A1 := X13.keep _ _ A1
            have A5 := X13.keep _ _ A5
            have n13 := X13.n
            refine o_rd (r_not (by simp only [ev, envOf, val_set, ofValue, ofCell, ↓reduceIte, Nat.reduceEqDiff, v0, v2, v3, v4, v11, v12, v13] <;> rfl)) rfl rfl ?_
            refine o_rd (r_assign (by simp only [ev, envOf, val_set, ofValue, ofCell, ↓reduceIte, Nat.reduceEqDiff, v0, v2, v3, v4, v11, v12, v13] <;> rfl)) rfl rfl ?_
            refine o_nil ?_
            refine w_cond (by simp only [ev, envOf, val_set, ofValue, ofCell, ↓reduceIte, Nat.reduceEqDiff, v0, v2, v3, v4, v11, v12, v13] <;> rfl) (fun hB14 => ?_) (fun hB14 => ?_)
            · have hc14 := (not_t hB14)
              refine w_seq ?_
              refine w_region ?_
              refine o_rd (r_move (by simp only [ev, envOf, val_set, ofValue, ofCell, ↓reduceIte, Nat.reduceEqDiff, v0, v2, v3, v4, v11, v12, v13] <;> rfl)) rfl rfl ?_
              refine o_rd (r_assign (by simp only [ev, envOf, val_set, ofValue, ofCell, ↓reduceIte, Nat.reduceEqDiff, v0, v2, v3, v4, v11, v12, v13] <;> rfl)) rfl rfl ?_
              refine o_rd (r_assign (by simp only [ev, envOf, val_set, ofValue, ofCell, ↓reduceIte, Nat.reduceEqDiff, v0, v2, v3, v4, v11, v12, v13] <;> rfl)) rfl rfl ?_
              refine o_nil ?_
              refine w_ret ⟨.inr rfl, rfl, .tup [.int .i64 (((i : Nat) : Int)), .int .i64 (21)], (show resultA Tryd.prog [.tmp 2, .tmp 3] _ = _ by simp only [resultA, resultsA, envOf, val_set, ↓reduceIte, Nat.reduceEqDiff, Option.map_some, v0, v2, v3, v4, v11, v12, v13] <;> rfl), ?_⟩
              try dsimp only
              have he : errC tx l i fs = 21 := by rw [herr]; simp [hc3, hg7, hc8, hc10, hc12, hc14]
              exact ⟨by rw [hgo, checkGo_bad (by omega) he (by omega)], E13⟩
            · have hc14 := (not_f hB14)
              refine w_seq ?_
              refine w_region ?_
              have hkid : kidsB l i fs = true := not_f (by assumption)
              have hks := kidsB_range hi hfs hkid; have hsend := send_has hi hkid; have G2 := goesOn_step hi hfs hkid G
              refine o_rd (r_move (by simp only [ev, envOf, val_set, ofValue, ofCell, ↓reduceIte, Nat.reduceEqDiff, v0, v2, v3, v4, v11, v12, v13] <;> rfl)) rfl rfl ?_
              refine o_rd (r_move (by simp only [ev, envOf, val_set, ofValue, ofCell, ↓reduceIte, Nat.reduceEqDiff, v0, v2, v3, v4, v11, v12, v13] <;> rfl)) rfl rfl ?_
              refine o_cl rfl rfl (by simp only [evs, ev, envOf, val_set, ofValue, ofCell, ↓reduceIte, Nat.reduceEqDiff, v0, v2, v3, v4, v11, v12, v13] <;> rfl) rfl (levels_fin ho W13 l _ i (hL.ext E13) hi G hks hsend) rfl rfl ?_; rintro _ H15 ⟨rfl, X15⟩
              have W15 := X15.wf; have E15 := E13.trans X15
              have A1 := X15.keep _ _ A1
              have A5 := X15.keep _ _ A5
              have n15 := X15.n
              refine o_rd (r_not (by simp only [ev, envOf, val_set, ofValue, ofCell, ↓reduceIte, Nat.reduceEqDiff, v0, v2, v3, v4, v11, v12, v13] <;> rfl)) rfl rfl ?_
              refine o_rd (r_assign (by simp only [ev, envOf, val_set, ofValue, ofCell, ↓reduceIte, Nat.reduceEqDiff, v0, v2, v3, v4, v11, v12, v13] <;> rfl)) rfl rfl ?_
              refine o_nil ?_
              refine w_cond (by simp only [ev, envOf, val_set, ofValue, ofCell, ↓reduceIte, Nat.reduceEqDiff, v0, v2, v3, v4, v11, v12, v13] <;> rfl) (fun hB16 => ?_) (fun hB16 => ?_)
              · have hc16 := (not_t hB16)
                refine w_seq ?_
                refine w_region ?_
                refine o_rd (r_move (by simp only [ev, envOf, val_set, ofValue, ofCell, ↓reduceIte, Nat.reduceEqDiff, v0, v2, v3, v4, v11, v12, v13] <;> rfl)) rfl rfl ?_
                refine o_rd (r_assign (by simp only [ev, envOf, val_set, ofValue, ofCell, ↓reduceIte, Nat.reduceEqDiff, v0, v2, v3, v4, v11, v12, v13] <;> rfl)) rfl rfl ?_
                refine o_rd (r_assign (by simp only [ev, envOf, val_set, ofValue, ofCell, ↓reduceIte, Nat.reduceEqDiff, v0, v2, v3, v4, v11, v12, v13] <;> rfl)) rfl rfl ?_
                refine o_nil ?_
                refine w_ret ⟨.inr rfl, rfl, .tup [.int .i64 (((i : Nat) : Int)), .int .i64 (24)], (show resultA Tryd.prog [.tmp 2, .tmp 3] _ = _ by simp only [resultA, resultsA, envOf, val_set, ↓reduceIte, Nat.reduceEqDiff, Option.map_some, v0, v2, v3, v4, v11, v12, v13] <;> rfl), ?_⟩
                try dsimp only
                have he : errC tx l i fs = 24 := by rw [herr]; simp [hc3, hg7, hc8, hc10, hc12, hc14, hc16]
                exact ⟨by rw [hgo, checkGo_bad (by omega) he (by omega)], E15⟩
              · have hc16 := (not_f hB16)
                refine w_skip ?_
                refine w_seq ?_
                refine w_region ?_
                have herr0 : errC tx l i fs = 0 := by rw [herr]; simp [hc3, hg7, hc8, hc10, hc12, hc14, hc16]
                have hif : i < fs.length := by omega
                refine o_rd (r_move (by simp only [ev, envOf, val_set, ofValue, ofCell, ↓reduceIte, Nat.reduceEqDiff, v0, v2, v3, v4, v11, v12, v13] <;> rfl)) rfl rfl ?_
                refine o_rd (r_move (by simp only [ev, envOf, val_set, ofValue, ofCell, ↓reduceIte, Nat.reduceEqDiff, v0, v2, v3, v4, v11, v12, v13] <;> rfl)) rfl rfl ?_
                refine o_rd (r_move (by simp only [ev, envOf, val_set, ofValue, ofCell, ↓reduceIte, Nat.reduceEqDiff, v0, v2, v3, v4, v11, v12, v13] <;> rfl)) rfl rfl ?_
                refine o_rd (r_indexAddr Tryd.underlying22 Ty.csz3 (by simp only [ev, envOf, val_set, ofValue, ofCell, ↓reduceIte, Nat.reduceEqDiff, v0, v2, v3, v4, v11, v12, v13] <;> rfl) (by simp only [ev, envOf, val_set, ofValue, ofCell, ↓reduceIte, Nat.reduceEqDiff, v0, v2, v3, v4, v11, v12, v13] <;> rfl) (by omega)) rfl rfl ?_
                refine o_st W15 (by simp only [ev, envOf, val_set, ofValue, ofCell, ↓reduceIte, Nat.reduceEqDiff, v0, v2, v3, v4, v11, v12, v13] <;> rfl) (by simp only [ev, envOf, val_set, ofValue, ofCell, ↓reduceIte, Nat.reduceEqDiff, v0, v2, v3, v4, v11, v12, v13] <;> rfl) A1 Ty.csz3 rfl (by simp; omega) rfl rfl rfl ?_; intro H17 n17 W17 A17 K17
                have A17 : H17.at (H0.n) = some (.row ((fs.set i (i : Int)).map (AV.int .i64)) 3 false none) := by rw [← put_int hif]; exact A17
                have E17 := Ext.put W0 E15 (by have := E15.n; omega) K17 n17 W17
                have A5 := K17.own A5 (by omega)
                refine o_nil ?_
                refine w_seq ?_
                refine w_region ?_
                refine o_rd (r_fieldAddr Ty.fo24_2 (by simp only [ev, envOf, val_set, ofValue, ofCell, ↓reduceIte, Nat.reduceEqDiff, v0, v2, v3, v4, v11, v12, v13] <;> rfl)) rfl rfl ?_
                refine o_rd (r_load1 (v := sk) Ty.agg22 (by simp only [ev, envOf, val_set, ofValue, ofCell, ↓reduceIte, Nat.reduceEqDiff, v0, v2, v3, v4, v11, v12, v13] <;> rfl) (read_mt A5 (Nat.le_of_ble_eq_true rfl))) rfl rfl ?_
                refine o_rd (r_len (n := l[i].ks.length) Tryd.underlying22 (by simp only [ev, envOf, val_set, ofValue, ofCell, ↓reduceIte, Nat.reduceEqDiff, v0, v2, v3, v4, v11, v12, v13] <;> rfl) hK.lenOf) rfl rfl ?_
                refine o_rd (r_gt (a := ((l[i].ks.length : Nat) : Int)) (b := 0) (by simp only [ev, envOf, val_set, ofValue, ofCell, ↓reduceIte, Nat.reduceEqDiff, v0, v2, v3, v4, v11, v12, v13] <;> rfl) (by simp only [ev, envOf, val_set, ofValue, ofCell, ↓reduceIte, Nat.reduceEqDiff, v0, v2, v3, v4, v11, v12, v13] <;> rfl)) rfl rfl ?_
                refine o_nil ?_
                refine w_cond (by simp only [ev, envOf, val_set, ofValue, ofCell, ↓reduceIte, Nat.reduceEqDiff, v0, v2, v3, v4, v11, v12, v13] <;> rfl) (fun hB18 => ?_) (fun hB18 => ?_)
                · have hc18 := dec_t hB18
                  refine w_region ?_
                  have hk0 : 0 < l[i].ks.length := by omega
                  obtain ⟨a, ha⟩ : ∃ a : Nat, l[i].ks[0] = (a : Int) := ⟨(l[i].ks[0]).toNat, by have := hks 0 hk0; omega⟩
                  have hai : a < i := by have := hks 0 hk0; omega
                  have haf : a < fs.length := by omega
                  have hla := hfs a haf
                  have hfa := firstC_at hi hk0 ha haf
                  obtain ⟨loc2, off2, cap2, rfl, hr2⟩ := hK.get hk0
                  rw [ha] at hr2
                  refine o_rd (r_move (by simp only [ev, envOf, val_set, ofValue, ofCell, ↓reduceIte, Nat.reduceEqDiff, v0, v2, v3, v4, v11, v12, v13] <;> rfl)) rfl rfl ?_
                  refine o_rd (r_move (by simp only [ev, envOf, val_set, ofValue, ofCell, ↓reduceIte, Nat.reduceEqDiff, v0, v2, v3, v4, v11, v12, v13] <;> rfl)) rfl rfl ?_
                  refine o_rd (r_move (by simp only [ev, envOf, val_set, ofValue, ofCell, ↓reduceIte, Nat.reduceEqDiff, v0, v2, v3, v4, v11, v12, v13] <;> rfl)) rfl rfl ?_
                  refine o_rd (r_fieldAddr Ty.fo24_2 (by simp only [ev, envOf, val_set, ofValue, ofCell, ↓reduceIte, Nat.reduceEqDiff, v0, v2, v3, v4, v11, v12, v13] <;> rfl)) rfl rfl ?_
                  refine o_rd (r_load1 (v := .sl loc2 (off2) (l[i].ks.length) cap2) Ty.agg22 (by simp only [ev, envOf, val_set, ofValue, ofCell, ↓reduceIte, Nat.reduceEqDiff, v0, v2, v3, v4, v11, v12, v13] <;> rfl) (read_mt A5 (Nat.le_of_ble_eq_true rfl))) rfl rfl ?_
                  refine o_rd (r_indexAddr Tryd.underlying22 Ty.csz3 (by simp only [ev, envOf, val_set, ofValue, ofCell, ↓reduceIte, Nat.reduceEqDiff, v0, v2, v3, v4, v11, v12, v13] <;> rfl) (by simp only [ev, envOf, val_set, ofValue, ofCell, ↓reduceIte, Nat.reduceEqDiff, v0, v2, v3, v4, v11, v12, v13] <;> rfl) hk0) rfl rfl ?_
                  refine o_rd (r_load1 Ty.agg3 (by simp only [ev, envOf, val_set, ofValue, ofCell, ↓reduceIte, Nat.reduceEqDiff, v0, v2, v3, v4, v11, v12, v13] <;> rfl) (Ext.read (H := H0) (by assumption) hr2)) rfl rfl ?_
                  refine o_rd (r_indexAddr Tryd.underlying22 Ty.csz3 (by simp only [ev, envOf, val_set, ofValue, ofCell, ↓reduceIte, Nat.reduceEqDiff, v0, v2, v3, v4, v11, v12, v13] <;> rfl) (by simp only [ev, envOf, val_set, ofValue, ofCell, ↓reduceIte, Nat.reduceEqDiff, v0, v2, v3, v4, v11, v12, v13] <;> rfl) (by omega)) rfl rfl ?_
                  refine o_rd (r_load1 Ty.agg3 (by simp only [ev, envOf, val_set, ofValue, ofCell, ↓reduceIte, Nat.reduceEqDiff, v0, v2, v3, v4, v11, v12, v13] <;> rfl) (show _ = some [AV.int .i64 fs[a]] by rw [SI.cell A17 (a := a) (by simp; omega), List.getElem_set_ne (by omega)])) rfl rfl ?_
                  refine o_rd (r_indexAddr Tryd.underlying22 Ty.csz3 (by simp only [ev, envOf, val_set, ofValue, ofCell, ↓reduceIte, Nat.reduceEqDiff, v0, v2, v3, v4, v11, v12, v13] <;> rfl) (by simp only [ev, envOf, val_set, ofValue, ofCell, ↓reduceIte, Nat.reduceEqDiff, v0, v2, v3, v4, v11, v12, v13] <;> rfl) (by omega)) rfl rfl ?_
                  refine o_st W17 (by simp only [ev, envOf, val_set, ofValue, ofCell, ↓reduceIte, Nat.reduceEqDiff, v0, v2, v3, v4, v11, v12, v13] <;> rfl) (by simp only [ev, envOf, val_set, ofValue, ofCell, ↓reduceIte, Nat.reduceEqDiff, v0, v2, v3, v4, v11, v12, v13] <;> rfl) A17 Ty.csz3 rfl (by simp; omega) rfl rfl rfl ?_; intro H19 n19 W19 A19 K19
                  have A19 : H19.at (H0.n) = some (.row ((fs.set i fs[a]).map (AV.int .i64)) 3 false none) := by have hq := A19; rw [show (AV.int .i64 fs[a]).cells = [AV.int .i64 fs[a]] from rfl, put_int (by simp; omega), List.set_set] at hq; exact hq
                  have E19 := Ext.put W0 E17 (by have := E17.n; omega) K19 n19 W19
                  have A5 := K19.own A5 (by omega)
                  refine o_nil ?_
                  refine w_region ?_
                  refine o_rd (r_addE (a := ((i : Nat) : Int)) (b := 1) (c := ((i + 1 : Nat) : Int)) (by simp only [ev, envOf, val_set, ofValue, ofCell, ↓reduceIte, Nat.reduceEqDiff, v0, v2, v3, v4, v11, v12, v13] <;> rfl) (by simp only [ev, envOf, val_set, ofValue, ofCell, ↓reduceIte, Nat.reduceEqDiff, v0, v2, v3, v4, v11, v12, v13] <;> rfl) (by omega) (by omega) (by omega)) rfl rfl ?_
                  refine o_rd (r_move (by simp only [ev, envOf, val_set, ofValue, ofCell, ↓reduceIte, Nat.reduceEqDiff, v0, v2, v3, v4, v11, v12, v13] <;> rfl)) rfl rfl ?_
                  refine o_nil ?_
                  exact ⟨m - 1, (by omega), _, H19, i + 1, (fs.set i (fs[a])), rfl, (by simp only [val_set, ↓reduceIte, Nat.reduceEqDiff, v0, v2, v3, v4, v11, v12, v13] <;> rfl), (by simp only [val_set, ↓reduceIte, Nat.reduceEqDiff, v0, v2, v3, v4, v11, v12, v13] <;> rfl), (by simp only [val_set, ↓reduceIte, Nat.reduceEqDiff, v0, v2, v3, v4, v11, v12, v13] <;> rfl), (by simp only [val_set, ↓reduceIte, Nat.reduceEqDiff, v0, v2, v3, v4, v11, v12, v13] <;> rfl), (by simp only [val_set, ↓reduceIte, Nat.reduceEqDiff, v0, v2, v3, v4, v11, v12, v13] <;> rfl), (by simp only [val_set, ↓reduceIte, Nat.reduceEqDiff, v0, v2, v3, v4, v11, v12, v13] <;> rfl), (by simp only [val_set, ↓reduceIte, Nat.reduceEqDiff, v0, v2, v3, v4, v11, v12, v13] <;> rfl), W19, E19, A19, (by omega), (by simp; omega), (set_le hfs (by omega) (by omega)), G2, (by rw [hgo, checkGo_ok (by omega) herr0 hfa])⟩
                · have hc18 := dec_f hB18
                  refine w_skip ?_
                  refine w_region ?_
                  refine o_rd (r_addE (a := ((i : Nat) : Int)) (b := 1) (c := ((i + 1 : Nat) : Int)) (by simp only [ev, envOf, val_set, ofValue, ofCell, ↓reduceIte, Nat.reduceEqDiff, v0, v2, v3, v4, v11, v12, v13] <;> rfl) (by simp only [ev, envOf, val_set, ofValue, ofCell, ↓reduceIte, Nat.reduceEqDiff, v0, v2, v3, v4, v11, v12, v13] <;> rfl) (by omega) (by omega) (by omega)) rfl rfl ?_
                  refine o_rd (r_move (by simp only [ev, envOf, val_set, ofValue, ofCell, ↓reduceIte, Nat.reduceEqDiff, v0, v2, v3, v4, v11, v12, v13] <;> rfl)) rfl rfl ?_
                  refine o_nil ?_
                  exact ⟨m - 1, (by omega), _, H17, i + 1, (fs.set i ((i : Int))), rfl, (by simp only [val_set, ↓reduceIte, Nat.reduceEqDiff, v0, v2, v3, v4, v11, v12, v13] <;> rfl), (by simp only [val_set, ↓reduceIte, Nat.reduceEqDiff, v0, v2, v3, v4, v11, v12, v13] <;> rfl), (by simp only [val_set, ↓reduceIte, Nat.reduceEqDiff, v0, v2, v3, v4, v11, v12, v13] <;> rfl), (by simp only [val_set, ↓reduceIte, Nat.reduceEqDiff, v0, v2, v3, v4, v11, v12, v13] <;> rfl), (by simp only [val_set, ↓reduceIte, Nat.reduceEqDiff, v0, v2, v3, v4, v11, v12, v13] <;> rfl), (by simp only [val_set, ↓reduceIte, Nat.reduceEqDiff, v0, v2, v3, v4, v11, v12, v13] <;> rfl), (by simp only [val_set, ↓reduceIte, Nat.reduceEqDiff, v0, v2, v3, v4, v11, v12, v13] <;> rfl), W17, E17, A17, (by omega), (by simp; omega), (set_le hfs (by omega) (by omega)), G2, (by rw [hgo, checkGo_ok (by omega) herr0 (firstC_nil hi (by omega))])⟩
    · have hg7 := dec_f (not_t hg7)
      refine o_sk rfl ((wanted_of (b := true) rfl rfl rfl (by simp only [val_set, ↓reduceIte, Nat.reduceEqDiff, v0, v2, v3, v4, v11, v12, v13] <;> rfl)).trans rfl) ?_
      refine o_sk rfl ((wanted_of (b := true) rfl rfl rfl (by simp only [val_set, ↓reduceIte, Nat.reduceEqDiff, v0, v2, v3, v4, v11, v12, v13] <;> rfl)).trans rfl) ?_
      refine o_sk rfl ((wanted_of (b := true) rfl rfl rfl (by simp only [val_set, ↓reduceIte, Nat.reduceEqDiff, v0, v2, v3, v4, v11, v12, v13] <;> rfl)).trans rfl) ?_
      refine o_rd (r_pick (t := true) (by simp only [ev, envOf, val_set, ofValue, ofCell, ↓reduceIte, Nat.reduceEqDiff, v0, v2, v3, v4, v11, v12, v13] <;> rfl) (fun _ => (by simp only [ev, envOf, val_set, ofValue, ofCell, ↓reduceIte, Nat.reduceEqDiff, v0, v2, v3, v4, v11, v12, v13] <;> rfl)) (fun h => by cases h)) rfl rfl ?_
      refine o_rd (r_assign (by simp only [ev, envOf, val_set, ofValue, ofCell, ↓reduceIte, Nat.reduceEqDiff, v0, v2, v3, v4, v11, v12, v13] <;> rfl)) rfl rfl ?_
      refine o_nil ?_
      refine w_cond (t := true) (by simp only [ev, envOf, val_set, ofValue, ofCell, ↓reduceIte, Nat.reduceEqDiff, v0, v2, v3, v4, v11, v12, v13] <;> rfl) (fun _ => ?_) (fun h => by cases h)
      refine w_seq ?_
      refine w_region ?_
      refine o_rd (r_move (by simp only [ev, envOf, val_set, ofValue, ofCell, ↓reduceIte, Nat.reduceEqDiff, v0, v2, v3, v4, v11, v12, v13] <;> rfl)) rfl rfl ?_
      refine o_rd (r_assign (by simp only [ev, envOf, val_set, ofValue, ofCell, ↓reduceIte, Nat.reduceEqDiff, v0, v2, v3, v4, v11, v12, v13] <;> rfl)) rfl rfl ?_
      refine o_rd (r_assign (by simp only [ev, envOf, val_set, ofValue, ofCell, ↓reduceIte, Nat.reduceEqDiff, v0, v2, v3, v4, v11, v12, v13] <;> rfl)) rfl rfl ?_
      refine o_nil ?_
      refine w_ret ⟨.inr rfl, rfl, .tup [.int .i64 (((i : Nat) : Int)), .int .i64 (20)], (show resultA Tryd.prog [.tmp 2, .tmp 3] _ = _ by simp only [resultA, resultsA, envOf, val_set, ↓reduceIte, Nat.reduceEqDiff, Option.map_some, v0, v2, v3, v4, v11, v12, v13] <;> rfl), ?_⟩
      try dsimp only
      have he : errC tx l i fs = 20 := by rw [herr]; simp [hc3, hg7]
      exact ⟨by rw [hgo, checkGo_bad (by omega) he (by omega)], E6⟩
  · have hc3 := dec_f hB3
    first | refine w_exit (blk_exit ?_) | refine w_exit (show (0 = 0 → _) ∧ (0 ≠ 0 → _) from ⟨fun _ => ?_, fun c => absurd rfl c⟩)
    refine w_seq ?_
    refine w_region ?_
    refine o_rd (r_move (by simp only [ev, envOf, val_set, ofValue, ofCell, ↓reduceIte, Nat.reduceEqDiff, v0, v2, v3, v4, v11, v12, v13] <;> rfl)) rfl rfl ?_
    refine o_rd (r_len (n := l.length) Tryd.underlying28 (by simp only [ev, envOf, val_set, ofValue, ofCell, ↓reduceIte, Nat.reduceEqDiff, v0, v2, v3, v4, v11, v12, v13] <;> rfl) hL.lenOf) rfl rfl ?_
    refine o_rd (r_subE (a := ((l.length : Nat) : Int)) (b := 1) (c := ((l.length : Nat) : Int) - 1) (by simp only [ev, envOf, val_set, ofValue, ofCell, ↓reduceIte, Nat.reduceEqDiff, v0, v2, v3, v4, v11, v12, v13] <;> rfl) (by simp only [ev, envOf, val_set, ofValue, ofCell, ↓reduceIte, Nat.reduceEqDiff, v0, v2, v3, v4, v11, v12, v13] <;> rfl) (by omega) (by omega) (by omega)) rfl rfl ?_
    refine o_rd (r_assign (by simp only [ev, envOf, val_set, ofValue, ofCell, ↓reduceIte, Nat.reduceEqDiff, v0, v2, v3, v4, v11, v12, v13] <;> rfl)) rfl rfl ?_
    refine o_nil ?_
    refine w_seq ?_
    refine w_seq ?_
    refine w_region ?_
    generalize hz : ((l.length : Nat) : Int) - 1 = z
    refine o_rd (r_move (by simp only [ev, envOf, val_set, ofValue, ofCell, ↓reduceIte, Nat.reduceEqDiff, v0, v2, v3, v4, v11, v12, v13] <;> rfl)) rfl rfl ?_
    refine o_rd (r_lt (a := z) (b := 0) (by simp only [ev, envOf, val_set, ofValue, ofCell, ↓reduceIte, Nat.reduceEqDiff, v0, v2, v3, v4, v11, v12, v13] <;> rfl) (by simp only [ev, envOf, val_set, ofValue, ofCell, ↓reduceIte, Nat.reduceEqDiff, v0, v2, v3, v4, v11, v12, v13] <;> rfl)) rfl rfl ?_
    refine o_rd (r_move (by simp only [ev, envOf, val_set, ofValue, ofCell, ↓reduceIte, Nat.reduceEqDiff, v0, v2, v3, v4, v11, v12, v13] <;> rfl)) rfl rfl ?_
    cases hg20 : (decide (z < 0) : Bool)
    · have hg20 := dec_f hg20
      refine o_rd (r_move (by simp only [ev, envOf, val_set, ofValue, ofCell, ↓reduceIte, Nat.reduceEqDiff, v0, v2, v3, v4, v11, v12, v13] <;> rfl)) rfl ((wanted_of (b := false) rfl rfl rfl (by simp only [val_set, ↓reduceIte, Nat.reduceEqDiff, v0, v2, v3, v4, v11, v12, v13] <;> rfl)).trans rfl) ?_
      refine o_rd (r_move (by simp only [ev, envOf, val_set, ofValue, ofCell, ↓reduceIte, Nat.reduceEqDiff, v0, v2, v3, v4, v11, v12, v13] <;> rfl)) rfl ((wanted_of (b := false) rfl rfl rfl (by simp only [val_set, ↓reduceIte, Nat.reduceEqDiff, v0, v2, v3, v4, v11, v12, v13] <;> rfl)).trans rfl) ?_
      obtain ⟨q, rfl⟩ : ∃ q : Nat, z = (q : Int) := ⟨z.toNat, by omega⟩
      have hql : q < l.length := by omega
      have hqf : q < fs.length := by omega
      obtain ⟨loc9, off9, cap9, sk9, rfl, hr9, hK9⟩ := hL.get hql
      refine o_rd (r_indexAddr Tryd.underlying28 Ty.csz24 (by simp only [ev, envOf, val_set, ofValue, ofCell, ↓reduceIte, Nat.reduceEqDiff, v0, v2, v3, v4, v11, v12, v13] <;> rfl) (by simp only [ev, envOf, val_set, ofValue, ofCell, ↓reduceIte, Nat.reduceEqDiff, v0, v2, v3, v4, v11, v12, v13] <;> rfl) hql) rfl ((wanted_of (b := false) rfl rfl rfl (by simp only [val_set, ↓reduceIte, Nat.reduceEqDiff, v0, v2, v3, v4, v11, v12, v13] <;> rfl)).trans rfl) ?_
      refine o_rd (r_fieldAddr Ty.fo24_0 (by simp only [ev, envOf, val_set, ofValue, ofCell, ↓reduceIte, Nat.reduceEqDiff, v0, v2, v3, v4, v11, v12, v13] <;> rfl)) rfl ((wanted_of (b := false) rfl rfl rfl (by simp only [val_set, ↓reduceIte, Nat.reduceEqDiff, v0, v2, v3, v4, v11, v12, v13] <;> rfl)).trans rfl) ?_
      refine o_rd (r_load1 Ty.agg3 (by simp only [ev, envOf, val_set, ofValue, ofCell, ↓reduceIte, Nat.reduceEqDiff, v0, v2, v3, v4, v11, v12, v13] <;> rfl) ((read_part (Ext.read (H := H0) (by assumption) hr9) (o := 0) (m := 1) (by decide)).trans rfl)) rfl ((wanted_of (b := false) rfl rfl rfl (by simp only [val_set, ↓reduceIte, Nat.reduceEqDiff, v0, v2, v3, v4, v11, v12, v13] <;> rfl)).trans rfl) ?_
      refine o_rd (r_ne (a := l[q].k) (b := 46) (by simp only [ev, envOf, val_set, ofValue, ofCell, ↓reduceIte, Nat.reduceEqDiff, v0, v2, v3, v4, v11, v12, v13] <;> rfl) (by simp only [ev, envOf, val_set, ofValue, ofCell, ↓reduceIte, Nat.reduceEqDiff, v0, v2, v3, v4, v11, v12, v13] <;> rfl)) rfl ((wanted_of (b := false) rfl rfl rfl (by simp only [val_set, ↓reduceIte, Nat.reduceEqDiff, v0, v2, v3, v4, v11, v12, v13] <;> rfl)).trans rfl) ?_
      refine o_rd (r_pick (t := false) (by simp only [ev, envOf, val_set, ofValue, ofCell, ↓reduceIte, Nat.reduceEqDiff, v0, v2, v3, v4, v11, v12, v13] <;> rfl) (fun h => by cases h) (fun _ => (by simp only [ev, envOf, val_set, ofValue, ofCell, ↓reduceIte, Nat.reduceEqDiff, v0, v2, v3, v4, v11, v12, v13] <;> rfl))) rfl rfl ?_
      refine o_rd (r_move (by simp only [ev, envOf, val_set, ofValue, ofCell, ↓reduceIte, Nat.reduceEqDiff, v0, v2, v3, v4, v11, v12, v13] <;> rfl)) rfl rfl ?_
      cases hg21 : (decide (l[q].k ≠ 46) : Bool)
      · have hg21 := dec_fn hg21
        refine o_rd (r_move (by simp only [ev, envOf, val_set, ofValue, ofCell, ↓reduceIte, Nat.reduceEqDiff, v0, v2, v3, v4, v11, v12, v13] <;> rfl)) rfl ((wanted_of (b := false) rfl rfl rfl (by simp only [val_set, ↓reduceIte, Nat.reduceEqDiff, v0, v2, v3, v4, v11, v12, v13] <;> rfl)).trans rfl) ?_
        refine o_rd (r_move (by simp only [ev, envOf, val_set, ofValue, ofCell, ↓reduceIte, Nat.reduceEqDiff, v0, v2, v3, v4, v11, v12, v13] <;> rfl)) rfl ((wanted_of (b := false) rfl rfl rfl (by simp only [val_set, ↓reduceIte, Nat.reduceEqDiff, v0, v2, v3, v4, v11, v12, v13] <;> rfl)).trans rfl) ?_
        refine o_rd (r_indexAddr Tryd.underlying22 Ty.csz3 (by simp only [ev, envOf, val_set, ofValue, ofCell, ↓reduceIte, Nat.reduceEqDiff, v0, v2, v3, v4, v11, v12, v13] <;> rfl) (by simp only [ev, envOf, val_set, ofValue, ofCell, ↓reduceIte, Nat.reduceEqDiff, v0, v2, v3, v4, v11, v12, v13] <;> rfl) (by omega)) rfl ((wanted_of (b := false) rfl rfl rfl (by simp only [val_set, ↓reduceIte, Nat.reduceEqDiff, v0, v2, v3, v4, v11, v12, v13] <;> rfl)).trans rfl) ?_
        refine o_rd (r_load1 Ty.agg3 (by simp only [ev, envOf, val_set, ofValue, ofCell, ↓reduceIte, Nat.reduceEqDiff, v0, v2, v3, v4, v11, v12, v13] <;> rfl) (SI.cell A1 (a := q) hqf)) rfl ((wanted_of (b := false) rfl rfl rfl (by simp only [val_set, ↓reduceIte, Nat.reduceEqDiff, v0, v2, v3, v4, v11, v12, v13] <;> rfl)).trans rfl) ?_
        refine o_rd (r_ne (a := fs[q]) (b := 0) (by simp only [ev, envOf, val_set, ofValue, ofCell, ↓reduceIte, Nat.reduceEqDiff, v0, v2, v3, v4, v11, v12, v13] <;> rfl) (by simp only [ev, envOf, val_set, ofValue, ofCell, ↓reduceIte, Nat.reduceEqDiff, v0, v2, v3, v4, v11, v12, v13] <;> rfl)) rfl ((wanted_of (b := false) rfl rfl rfl (by simp only [val_set, ↓reduceIte, Nat.reduceEqDiff, v0, v2, v3, v4, v11, v12, v13] <;> rfl)).trans rfl) ?_
        refine o_rd (r_pick (t := false) (by simp only [ev, envOf, val_set, ofValue, ofCell, ↓reduceIte, Nat.reduceEqDiff, v0, v2, v3, v4, v11, v12, v13] <;> rfl) (fun h => by cases h) (fun _ => (by simp only [ev, envOf, val_set, ofValue, ofCell, ↓reduceIte, Nat.reduceEqDiff, v0, v2, v3, v4, v11, v12, v13] <;> rfl))) rfl rfl ?_
        refine o_nil ?_
        refine w_cond (by simp only [ev, envOf, val_set, ofValue, ofCell, ↓reduceIte, Nat.reduceEqDiff, v0, v2, v3, v4, v11, v12, v13] <;> rfl) (fun hB22 => ?_) (fun hB22 => ?_)
        · have hc22 := dec_t hB22
          refine w_seq ?_
          refine w_region ?_
          refine o_rd (r_move (by simp only [ev, envOf, val_set, ofValue, ofCell, ↓reduceIte, Nat.reduceEqDiff, v0, v2, v3, v4, v11, v12, v13] <;> rfl)) rfl rfl ?_
          refine o_rd (r_len (n := l.length) Tryd.underlying28 (by simp only [ev, envOf, val_set, ofValue, ofCell, ↓reduceIte, Nat.reduceEqDiff, v0, v2, v3, v4, v11, v12, v13] <;> rfl) rfl) rfl rfl ?_
          refine o_rd (r_assign (by simp only [ev, envOf, val_set, ofValue, ofCell, ↓reduceIte, Nat.reduceEqDiff, v0, v2, v3, v4, v11, v12, v13] <;> rfl)) rfl rfl ?_
          refine o_rd (r_assign (by simp only [ev, envOf, val_set, ofValue, ofCell, ↓reduceIte, Nat.reduceEqDiff, v0, v2, v3, v4, v11, v12, v13] <;> rfl)) rfl rfl ?_
          refine o_nil ?_
          refine w_ret ⟨.inr rfl, rfl, .tup [.int .i64 (((l.length : Nat) : Int)), .int .i64 (25)], (show resultA Tryd.prog [.tmp 2, .tmp 3] _ = _ by simp only [resultA, resultsA, envOf, val_set, ↓reduceIte, Nat.reduceEqDiff, Option.map_some, v0, v2, v3, v4, v11, v12, v13] <;> rfl), ?_⟩
          try dsimp only
          exact ⟨by first | rw [hgo, show m = 0 by omega, checkGo_none (by omega)] | rw [hgo, show m = 0 by omega, checkGo_end (q := q) (by omega) hqf hfl, if_neg (by omega)], E2⟩
        · have hc22 := dec_fn hB22
          refine w_skip ?_
          refine w_seq ?_
          refine w_region ?_
          refine o_rd (r_assign (by simp only [ev, envOf, val_set, ofValue, ofCell, ↓reduceIte, Nat.reduceEqDiff, v0, v2, v3, v4, v11, v12, v13] <;> rfl)) rfl rfl ?_
          refine o_rd (r_assign (by simp only [ev, envOf, val_set, ofValue, ofCell, ↓reduceIte, Nat.reduceEqDiff, v0, v2, v3, v4, v11, v12, v13] <;> rfl)) rfl rfl ?_
          refine o_nil ?_
          refine w_ret ⟨.inr rfl, rfl, .tup [.int .i64 (0), .int .i64 (0)], (show resultA Tryd.prog [.tmp 2, .tmp 3] _ = _ by simp only [resultA, resultsA, envOf, val_set, ↓reduceIte, Nat.reduceEqDiff, Option.map_some, v0, v2, v3, v4, v11, v12, v13] <;> rfl), ?_⟩
          try dsimp only
          exact ⟨by rw [hgo, show m = 0 by omega, checkGo_end (q := q) (by omega) hqf hfl, if_pos ⟨by omega, by omega⟩], E2⟩
      · have hg21 := dec_t hg21
        refine o_sk rfl ((wanted_of (b := true) rfl rfl rfl (by simp only [val_set, ↓reduceIte, Nat.reduceEqDiff, v0, v2, v3, v4, v11, v12, v13] <;> rfl)).trans rfl) ?_
        refine o_sk rfl ((wanted_of (b := true) rfl rfl rfl (by simp only [val_set, ↓reduceIte, Nat.reduceEqDiff, v0, v2, v3, v4, v11, v12, v13] <;> rfl)).trans rfl) ?_
        refine o_sk rfl ((wanted_of (b := true) rfl rfl rfl (by simp only [val_set, ↓reduceIte, Nat.reduceEqDiff, v0, v2, v3, v4, v11, v12, v13] <;> rfl)).trans rfl) ?_
        refine o_sk rfl ((wanted_of (b := true) rfl rfl rfl (by simp only [val_set, ↓reduceIte, Nat.reduceEqDiff, v0, v2, v3, v4, v11, v12, v13] <;> rfl)).trans rfl) ?_
        refine o_sk rfl ((wanted_of (b := true) rfl rfl rfl (by simp only [val_set, ↓reduceIte, Nat.reduceEqDiff, v0, v2, v3, v4, v11, v12, v13] <;> rfl)).trans rfl) ?_
        refine o_rd (r_pick (t := true) (by simp only [ev, envOf, val_set, ofValue, ofCell, ↓reduceIte, Nat.reduceEqDiff, v0, v2, v3, v4, v11, v12, v13] <;> rfl) (fun _ => (by simp only [ev, envOf, val_set, ofValue, ofCell, ↓reduceIte, Nat.reduceEqDiff, v0, v2, v3, v4, v11, v12, v13] <;> rfl)) (fun h => by cases h)) rfl rfl ?_
        refine o_nil ?_
        refine w_cond (t := true) (by simp only [ev, envOf, val_set, ofValue, ofCell, ↓reduceIte, Nat.reduceEqDiff, v0, v2, v3, v4, v11, v12, v13] <;> rfl) (fun _ => ?_) (fun h => by cases h)
        refine w_seq ?_
        refine w_region ?_
        refine o_rd (r_move (by simp only [ev, envOf, val_set, ofValue, ofCell, ↓reduceIte, Nat.reduceEqDiff, v0, v2, v3, v4, v11, v12, v13] <;> rfl)) rfl rfl ?_
        refine o_rd (r_len (n := l.length) Tryd.underlying28 (by simp only [ev, envOf, val_set, ofValue, ofCell, ↓reduceIte, Nat.reduceEqDiff, v0, v2, v3, v4, v11, v12, v13] <;> rfl) rfl) rfl rfl ?_
        refine o_rd (r_assign (by simp only [ev, envOf, val_set, ofValue, ofCell, ↓reduceIte, Nat.reduceEqDiff, v0, v2, v3, v4, v11, v12, v13] <;> rfl)) rfl rfl ?_
        refine o_rd (r_assign (by simp only [ev, envOf, val_set, ofValue, ofCell, ↓reduceIte, Nat.reduceEqDiff, v0, v2, v3, v4, v11, v12, v13] <;> rfl)) rfl rfl ?_
        refine o_nil ?_
        refine w_ret ⟨.inr rfl, rfl, .tup [.int .i64 (((l.length : Nat) : Int)), .int .i64 (25)], (show resultA Tryd.prog [.tmp 2, .tmp 3] _ = _ by simp only [resultA, resultsA, envOf, val_set, ↓reduceIte, Nat.reduceEqDiff, Option.map_some, v0, v2, v3, v4, v11, v12, v13] <;> rfl), ?_⟩
        try dsimp only
        exact ⟨by first | rw [hgo, show m = 0 by omega, checkGo_none (by omega)] | rw [hgo, show m = 0 by omega, checkGo_end (q := q) (by omega) hqf hfl, if_neg (by omega)], E2⟩
    · have hg20 := dec_t hg20
      refine o_sk rfl ((wanted_of (b := true) rfl rfl rfl (by simp only [val_set, ↓reduceIte, Nat.reduceEqDiff, v0, v2, v3, v4, v11, v12, v13] <;> rfl)).trans rfl) ?_
      refine o_sk rfl ((wanted_of (b := true) rfl rfl rfl (by simp only [val_set, ↓reduceIte, Nat.reduceEqDiff, v0, v2, v3, v4, v11, v12, v13] <;> rfl)).trans rfl) ?_
      refine o_sk rfl ((wanted_of (b := true) rfl rfl rfl (by simp only [val_set, ↓reduceIte, Nat.reduceEqDiff, v0, v2, v3, v4, v11, v12, v13] <;> rfl)).trans rfl) ?_
      refine o_sk rfl ((wanted_of (b := true) rfl rfl rfl (by simp only [val_set, ↓reduceIte, Nat.reduceEqDiff, v0, v2, v3, v4, v11, v12, v13] <;> rfl)).trans rfl) ?_
      refine o_sk rfl ((wanted_of (b := true) rfl rfl rfl (by simp only [val_set, ↓reduceIte, Nat.reduceEqDiff, v0, v2, v3, v4, v11, v12, v13] <;> rfl)).trans rfl) ?_
      refine o_sk rfl ((wanted_of (b := true) rfl rfl rfl (by simp only [val_set, ↓reduceIte, Nat.reduceEqDiff, v0, v2, v3, v4, v11, v12, v13] <;> rfl)).trans rfl) ?_
      refine o_rd (r_pick (t := true) (by simp only [ev, envOf, val_set, ofValue, ofCell, ↓reduceIte, Nat.reduceEqDiff, v0, v2, v3, v4, v11, v12, v13] <;> rfl) (fun _ => (by simp only [ev, envOf, val_set, ofValue, ofCell, ↓reduceIte, Nat.reduceEqDiff, v0, v2, v3, v4, v11, v12, v13] <;> rfl)) (fun h => by cases h)) rfl rfl ?_
      refine o_rd (r_move (by simp only [ev, envOf, val_set, ofValue, ofCell, ↓reduceIte, Nat.reduceEqDiff, v0, v2, v3, v4, v11, v12, v13] <;> rfl)) rfl rfl ?_
      refine o_sk rfl ((wanted_of (b := true) rfl rfl rfl (by simp only [val_set, ↓reduceIte, Nat.reduceEqDiff, v0, v2, v3, v4, v11, v12, v13] <;> rfl)).trans rfl) ?_
      refine o_sk rfl ((wanted_of (b := true) rfl rfl rfl (by simp only [val_set, ↓reduceIte, Nat.reduceEqDiff, v0, v2, v3, v4, v11, v12, v13] <;> rfl)).trans rfl) ?_
      refine o_sk rfl ((wanted_of (b := true) rfl rfl rfl (by simp only [val_set, ↓reduceIte, Nat.reduceEqDiff, v0, v2, v3, v4, v11, v12, v13] <;> rfl)).trans rfl) ?_
      refine o_sk rfl ((wanted_of (b := true) rfl rfl rfl (by simp only [val_set, ↓reduceIte, Nat.reduceEqDiff, v0, v2, v3, v4, v11, v12, v13] <;> rfl)).trans rfl) ?_
      refine o_sk rfl ((wanted_of (b := true) rfl rfl rfl (by simp only [val_set, ↓reduceIte, Nat.reduceEqDiff, v0, v2, v3, v4, v11, v12, v13] <;> rfl)).trans rfl) ?_
      refine o_rd (r_pick (t := true) (by simp only [ev, envOf, val_set, ofValue, ofCell, ↓reduceIte, Nat.reduceEqDiff, v0, v2, v3, v4, v11, v12, v13] <;> rfl) (fun _ => (by simp only [ev, envOf, val_set, ofValue, ofCell, ↓reduceIte, Nat.reduceEqDiff, v0, v2, v3, v4, v11, v12, v13] <;> rfl)) (fun h => by cases h)) rfl rfl ?_
      refine o_nil ?_
      refine w_cond (t := true) (by simp only [ev, envOf, val_set, ofValue, ofCell, ↓reduceIte, Nat.reduceEqDiff, v0, v2, v3, v4, v11, v12, v13] <;> rfl) (fun _ => ?_) (fun h => by cases h)
      refine w_seq ?_
      refine w_region ?_
      refine o_rd (r_move (by simp only [ev, envOf, val_set, ofValue, ofCell, ↓reduceIte, Nat.reduceEqDiff, v0, v2, v3, v4, v11, v12, v13] <;> rfl)) rfl rfl ?_
      refine o_rd (r_len (n := l.length) Tryd.underlying28 (by simp only [ev, envOf, val_set, ofValue, ofCell, ↓reduceIte, Nat.reduceEqDiff, v0, v2, v3, v4, v11, v12, v13] <;> rfl) hL.lenOf) rfl rfl ?_
      refine o_rd (r_assign (by simp only [ev, envOf, val_set, ofValue, ofCell, ↓reduceIte, Nat.reduceEqDiff, v0, v2, v3, v4, v11, v12, v13] <;> rfl)) rfl rfl ?_
      refine o_rd (r_assign (by simp only [ev, envOf, val_set, ofValue, ofCell, ↓reduceIte, Nat.reduceEqDiff, v0, v2, v3, v4, v11, v12, v13] <;> rfl)) rfl rfl ?_
      refine o_nil ?_
      refine w_ret ⟨.inr rfl, rfl, .tup [.int .i64 (((l.length : Nat) : Int)), .int .i64 (25)], (show resultA Tryd.prog [.tmp 2, .tmp 3] _ = _ by simp only [resultA, resultsA, envOf, val_set, ↓reduceIte, Nat.reduceEqDiff, Option.map_some, v0, v2, v3, v4, v11, v12, v13] <;> rfl), ?_⟩
      try dsimp only
      exact ⟨by first | rw [hgo, show m = 0 by omega, checkGo_none (by omega)] | rw [hgo, show m = 0 by omega, checkGo_end (q := q) (by omega) hqf hfl, if_neg (by omega)], E2⟩
end Go.Proofs.YtpdphdbphhaekaaDoor.Vs
