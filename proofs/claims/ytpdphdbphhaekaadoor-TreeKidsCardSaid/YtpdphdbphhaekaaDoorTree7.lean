/-
  Whether a node's kids bind as tightly as they must.
-/
import Derived.Test.YtpdphdbphhaekaaDoorTree6
set_option autoImplicit false
set_option linter.unusedVariables false
set_option linter.unusedSimpArgs false
namespace Go.Proofs.YtpdphdbphhaekaaDoor.Vs
open Go.VI Go.Proofs
variable {orc : CallF}
/-- the node of a node's kid -/
def kidN (l : List ND) (v : ND) (k : Nat) : Option ND := match v.ks[k]? with
  | some kid => l[kid.toNat]?
  | none => none
def tightB (l : List ND) (v : ND) (k : Nat) : Bool := match kidN l v k with
  | some w => !(decide (isP w.k 1) && decide (levelF w.k w.n < leastF v.k v.n k))
  | none => true
theorem tight_at {l : List ND} {v : ND} {k a : Nat} (hk : k < v.ks.length) (h : v.ks[k] = (a : Int)) (ha : a < l.length) : tightB l v k = !(decide (isP l[a].k 1) && decide (levelF l[a].k l[a].n < leastF v.k v.n k)) := by
  simp only [tightB, kidN, List.getElem?_eq_getElem hk, h, Int.toNat_natCast, List.getElem?_eq_getElem ha]
def tightAll (l : List ND) (v : ND) : Bool := (List.range v.ks.length).all (tightB l v)
theorem tightAll_t {l : List ND} {v : ND} (h : ∀ j, j < v.ks.length → tightB l v j = true) : tightAll l v = true := by
  simp only [tightAll, List.all_eq_true, List.mem_range]; exact h
theorem tightAll_f {l : List ND} {v : ND} {k : Nat} (hk : k < v.ks.length) (h : tightB l v k = false) : tightAll l v = false := by
  rw [Bool.eq_false_iff]
  simp only [tightAll, ne_eq, List.all_eq_true, List.mem_range]
  intro q
  have := q k hk
  simp [h] at this
def levelsB (l : List ND) (i : Nat) : Bool := match l[i]? with
  | none => false
  | some v => tightAll l v && (decide (v.k ≠ 44) || !recv l (v.ks.headD 0).toNat)
theorem levelsB_at {l : List ND} {i : Nat} (hi : i < l.length) : levelsB l i = (tightAll l l[i] && (decide (l[i].k ≠ 44) || !recv l (l[i].ks.headD 0).toNat)) := by
  simp only [levelsB, List.getElem?_eq_getElem hi]
set_option maxRecDepth 100000 in
set_option maxHeartbeats 4000000 in
theorem levels_fin (ho : NoOrcBut [8, 64, 65] orc) {H0 : AH} (W0 : Wf H0) (l : List ND) (sl : AV) (i : Nat) (hL : NS H0 l sl) (hi : i < l.length) (G : GoesOn l i) (hks : ∀ k, (h : k < l[i].ks.length) → 0 ≤ l[i].ks[k] ∧ l[i].ks[k] < i) (hsend : l[i].k = 44 → 0 < l[i].ks.length) : Fin Tryd.prog orc 28 [sl, .int .i64 (((i : Nat) : Int))] H0 (fun r H' => r = .bool (levelsB l i) ∧ Ext H0 H') := by
  have E0 := Ext.refl W0
  refine fin_of Tryd.func28 rfl (by rw [Tryd.ntmps28]; simp) (ho _ rfl _ _) ?_
  rw [Tryd.ntmps28]
  refine w_seq ?_
  refine w_region ?_
  refine o_rd (r_assign (by simp only [ev, envOf, val_set, ofValue, ofCell, ↓reduceIte, Nat.reduceEqDiff] <;> rfl)) rfl rfl ?_
  refine o_nil ?_
  refine w_seq ?_
  refine w_region ?_
  have hlb := hL.bound
  obtain ⟨loc1, off1, cap1, sk, rfl, hr1, hK⟩ := hL.get hi
  have hkb := hK.bound
  refine o_rd (r_move (by simp only [ev, envOf, val_set, ofValue, ofCell, ↓reduceIte, Nat.reduceEqDiff] <;> rfl)) rfl rfl ?_
  refine o_rd (r_move (by simp only [ev, envOf, val_set, ofValue, ofCell, ↓reduceIte, Nat.reduceEqDiff] <;> rfl)) rfl rfl ?_
  refine o_rd (r_indexAddr Tryd.underlying28 Ty.csz24 (by simp only [ev, envOf, val_set, ofValue, ofCell, ↓reduceIte, Nat.reduceEqDiff] <;> rfl) (by simp only [ev, envOf, val_set, ofValue, ofCell, ↓reduceIte, Nat.reduceEqDiff] <;> rfl) hi) rfl rfl ?_
  refine o_rd (r_loadN Ty.agg24 Ty.csz24 (by simp only [ev, envOf, val_set, ofValue, ofCell, ↓reduceIte, Nat.reduceEqDiff] <;> rfl) (Ext.read (H := H0) (by assumption) hr1)) rfl rfl ?_
  refine o_nw W0 (a_alloc Ty.zero24) rfl rfl rfl (by simp) ?_; intro H1 n1 W1 X1 A1
  have A1 : H1.at H0.n = some (.row [.int .i64 (0), .int .i64 (0), .nils, .str ([]), .int .i64 (0)] 24 false none) := A1
  have E1 := E0.trans X1
  have g1 : H0.n ≤ H0.n := E0.n
  refine o_st W1 (by simp only [ev, envOf, val_set, ofValue, ofCell, ↓reduceIte, Nat.reduceEqDiff] <;> rfl) (by simp only [ev, envOf, val_set, ofValue, ofCell, ↓reduceIte, Nat.reduceEqDiff] <;> rfl) A1 Ty.csz24 rfl (Nat.le_of_ble_eq_true rfl) (by first | rfl | (exact (NA.of hK).ones)) rfl rfl ?_; intro H2 n2 W2 A2 K2
  have A2 : H2.at H0.n = some (.row [.int .i64 (l[i].k), .int .i64 (l[i].at_), sk, .str (l[i].nm), .int .i64 (l[i].n)] 24 false none) := A2
  have E2 := Ext.put W0 E1 (by have := E1.n; omega) K2 n2 W2
  refine o_nil ?_
  refine w_seq ?_
  refine w_seq ?_
  refine w_region ?_
  refine o_rd (r_fieldAddr Ty.fo24_2 (by simp only [ev, envOf, val_set, ofValue, ofCell, ↓reduceIte, Nat.reduceEqDiff] <;> rfl)) rfl rfl ?_
  refine o_rd (r_load1 (v := sk) Ty.agg22 (by simp only [ev, envOf, val_set, ofValue, ofCell, ↓reduceIte, Nat.reduceEqDiff] <;> rfl) (read_mt A2 (Nat.le_of_ble_eq_true rfl))) rfl rfl ?_
  refine o_rd (r_len (n := l[i].ks.length) Tryd.underlying22 (by simp only [ev, envOf, val_set, ofValue, ofCell, ↓reduceIte, Nat.reduceEqDiff] <;> rfl) hK.lenOf) rfl rfl ?_
  refine o_rd (r_move (by simp only [ev, envOf, val_set, ofValue, ofCell, ↓reduceIte, Nat.reduceEqDiff] <;> rfl)) rfl rfl ?_
  refine o_nil ?_
  refine w_block ?_
  refine w_loop (fun m s => ∃ (e : Env) (H : AH) (k : Nat), s = ⟨e, H, []⟩ ∧ e.val 0 = .sl loc1 (off1) (l.length) cap1 ∧ e.val 1 = .int .i64 (((i : Nat) : Int)) ∧ e.val 4 = .bool (false) ∧ e.val 5 = .ptr (.mt (H0.n)) (0) ∧ e.val 13 = sk ∧ e.val 14 = .int .i64 (((l[i].ks.length : Nat) : Int)) ∧ e.val 15 = .int .i64 (((k : Nat) : Int)) ∧ Wf H ∧ Ext H0 H ∧ H.at (H0.n) = some (.row [.int .i64 (l[i].k), .int .i64 (l[i].at_), sk, .str (l[i].nm), .int .i64 (l[i].n)] 24 false none) ∧ (k + m = l[i].ks.length) ∧ (∀ j, j < k → tightB l l[i] j = true)) (l[i].ks.length) ⟨_, H2, 0, rfl, (by simp only [val_set, ↓reduceIte, Nat.reduceEqDiff] <;> rfl), (by simp only [val_set, ↓reduceIte, Nat.reduceEqDiff] <;> rfl), (by simp only [val_set, ↓reduceIte, Nat.reduceEqDiff] <;> rfl), (by simp only [val_set, ↓reduceIte, Nat.reduceEqDiff] <;> rfl), (by simp only [val_set, ↓reduceIte, Nat.reduceEqDiff] <;> rfl), (by simp only [val_set, ↓reduceIte, Nat.reduceEqDiff] <;> rfl), (by simp only [val_set, ↓reduceIte, Nat.reduceEqDiff] <;> rfl), W2, E2, A2, (by omega), (by intro j hj; omega)⟩ ?_
  intro m s hi
  obtain ⟨e, H3, k, rfl, v0, v1, v4, v5, v13, v14, v15, W3, E3, A2, hkm, hok⟩ := hi
  have l3_0 := W3.lt A2
  refine w_seq ?_
  refine w_region ?_
  refine o_rd (r_lt (a := ((k : Nat) : Int)) (b := ((l[i].ks.length : Nat) : Int)) (by simp only [ev, envOf, val_set, ofValue, ofCell, ↓reduceIte, Nat.reduceEqDiff, v0, v1, v4, v5, v13, v14, v15] <;> rfl) (by simp only [ev, envOf, val_set, ofValue, ofCell, ↓reduceIte, Nat.reduceEqDiff, v0, v1, v4, v5, v13, v14, v15] <;> rfl)) rfl rfl ?_
  refine o_nil ?_
  refine w_seq ?_
  refine w_cond (by simp only [ev, envOf, val_set, ofValue, ofCell, ↓reduceIte, Nat.reduceEqDiff, v0, v1, v4, v5, v13, v14, v15] <;> rfl) (fun hB4 => ?_) (fun hB4 => ?_)
  · have hc4 := dec_t hB4
    refine w_skip ?_
    refine w_seq ?_
    refine w_block ?_
    refine w_seq ?_
    refine w_region ?_
    have hk1 : k < l[i].ks.length := by omega
    obtain ⟨a, ha⟩ : ∃ a : Nat, l[i].ks[k] = (a : Int) := ⟨(l[i].ks[k]).toNat, by have := hks k hk1; omega⟩
    have hai : a < i := by have := hks k hk1; omega
    have hal : a < l.length := by omega
    obtain ⟨loc2, off2, cap2, rfl, hr2⟩ := hK.get hk1
    rw [ha] at hr2
    obtain ⟨loc3, off3, cap3, ska, hsl3, hra, hKa⟩ := hL.get hal
    simp only [AV.sl.injEq] at hsl3
    rw [← hsl3.1, ← hsl3.2.1] at hra
    have htg := tight_at hk1 ha hal
    refine o_rd (r_move (by simp only [ev, envOf, val_set, ofValue, ofCell, ↓reduceIte, Nat.reduceEqDiff, v0, v1, v4, v5, v13, v14, v15] <;> rfl)) rfl rfl ?_
    refine o_rd (r_indexAddr Tryd.underlying22 Ty.csz3 (by simp only [ev, envOf, val_set, ofValue, ofCell, ↓reduceIte, Nat.reduceEqDiff, v0, v1, v4, v5, v13, v14, v15] <;> rfl) (by simp only [ev, envOf, val_set, ofValue, ofCell, ↓reduceIte, Nat.reduceEqDiff, v0, v1, v4, v5, v13, v14, v15] <;> rfl) hk1) rfl rfl ?_
    refine o_rd (r_load1 Ty.agg3 (by simp only [ev, envOf, val_set, ofValue, ofCell, ↓reduceIte, Nat.reduceEqDiff, v0, v1, v4, v5, v13, v14, v15] <;> rfl) (Ext.read (H := H0) (by assumption) hr2)) rfl rfl ?_
    refine o_rd (r_assign (by simp only [ev, envOf, val_set, ofValue, ofCell, ↓reduceIte, Nat.reduceEqDiff, v0, v1, v4, v5, v13, v14, v15] <;> rfl)) rfl rfl ?_
    refine o_rd (r_assign (by simp only [ev, envOf, val_set, ofValue, ofCell, ↓reduceIte, Nat.reduceEqDiff, v0, v1, v4, v5, v13, v14, v15] <;> rfl)) rfl rfl ?_
    refine o_nil ?_
    refine w_seq ?_
    refine w_draw (ms := [0, 0, 3, 7, 15, 31, 63, 63, 255, 511, 1023, 63, 63, 8191, 16383, 32767]) (ord := [0, 1, 2, 3, 4, 5, 6, 7, 8, 9, 11, 12, 10, 13, 14, 15]) (by kernel_rfl) (by kernel_rfl) (by kernel_rfl) ?_
    refine d_rd rfl (r_move (by simp only [ev, envOf, val_set, ofValue, ofCell, ↓reduceIte, Nat.reduceEqDiff, v0, v1, v4, v5, v13, v14, v15] <;> rfl)) rfl rfl ?_
    refine d_rd rfl (r_move (by simp only [ev, envOf, val_set, ofValue, ofCell, ↓reduceIte, Nat.reduceEqDiff, v0, v1, v4, v5, v13, v14, v15] <;> rfl)) rfl rfl ?_
    refine d_rd rfl (r_indexAddr Tryd.underlying28 Ty.csz24 (by simp only [ev, envOf, val_set, ofValue, ofCell, ↓reduceIte, Nat.reduceEqDiff, v0, v1, v4, v5, v13, v14, v15] <;> rfl) (by simp only [ev, envOf, val_set, ofValue, ofCell, ↓reduceIte, Nat.reduceEqDiff, v0, v1, v4, v5, v13, v14, v15] <;> rfl) hal) rfl rfl ?_
    refine d_rd rfl (r_loadN Ty.agg24 Ty.csz24 (by simp only [ev, envOf, val_set, ofValue, ofCell, ↓reduceIte, Nat.reduceEqDiff, v0, v1, v4, v5, v13, v14, v15] <;> rfl) (Ext.read (H := H0) (by assumption) hra)) rfl rfl ?_
    refine d_cl rfl rfl rfl (by simp only [evs, ev, envOf, val_set, ofValue, ofCell, ↓reduceIte, Nat.reduceEqDiff, v0, v1, v4, v5, v13, v14, v15] <;> rfl) rfl (is_fin ho W3 l[a] ska 1) rfl rfl ?_; rintro _ H5 ⟨rfl, X5⟩
    have W5 := X5.wf; have E5 := E3.trans X5
    have A2 := X5.keep _ _ A2
    have n5 := X5.n
    refine ⟨re_forcedL (M := 15) (I := 3) rfl rfl (by decide) (re_forcedL (M := 15) (I := 2) rfl rfl (by decide) (re_forcedL (M := 15) (I := 1) rfl rfl (by decide) (re_forcedL (M := 15) (I := 0) rfl rfl (by decide) (re_nil)))), ?_⟩
    refine d_rd rfl (r_move (by simp only [ev, envOf, val_set, ofValue, ofCell, ↓reduceIte, Nat.reduceEqDiff, v0, v1, v4, v5, v13, v14, v15] <;> rfl)) rfl rfl ?_
    cases hg6 : (decide (isP l[a].k 1) : Bool)
    · have hg6 := dec_f hg6
      refine d_sk rfl rfl ((wanted_of (b := false) rfl rfl rfl (by simp only [val_set, ↓reduceIte, Nat.reduceEqDiff, v0, v1, v4, v5, v13, v14, v15] <;> rfl)).trans rfl) ?_
      refine d_sk rfl rfl ((wanted_of (b := false) rfl rfl rfl (by simp only [val_set, ↓reduceIte, Nat.reduceEqDiff, v0, v1, v4, v5, v13, v14, v15] <;> rfl)).trans rfl) ?_
      refine d_sk rfl rfl ((wanted_of (b := false) rfl rfl rfl (by simp only [val_set, ↓reduceIte, Nat.reduceEqDiff, v0, v1, v4, v5, v13, v14, v15] <;> rfl)).trans rfl) ?_
      refine d_sk rfl rfl ((wanted_of (b := false) rfl rfl rfl (by simp only [val_set, ↓reduceIte, Nat.reduceEqDiff, v0, v1, v4, v5, v13, v14, v15] <;> rfl)).trans rfl) ?_
      refine d_sk rfl rfl ((wanted_of (b := false) rfl rfl rfl (by simp only [val_set, ↓reduceIte, Nat.reduceEqDiff, v0, v1, v4, v5, v13, v14, v15] <;> rfl)).trans rfl) ?_
      refine d_sk rfl rfl ((wanted_of (b := false) rfl rfl rfl (by simp only [val_set, ↓reduceIte, Nat.reduceEqDiff, v0, v1, v4, v5, v13, v14, v15] <;> rfl)).trans rfl) ?_
      refine d_sk rfl rfl ((wanted_of (b := false) rfl rfl rfl (by simp only [val_set, ↓reduceIte, Nat.reduceEqDiff, v0, v1, v4, v5, v13, v14, v15] <;> rfl)).trans rfl) ?_
      refine d_sk rfl rfl ((wanted_of (b := false) rfl rfl rfl (by simp only [val_set, ↓reduceIte, Nat.reduceEqDiff, v0, v1, v4, v5, v13, v14, v15] <;> rfl)).trans rfl) ?_
      refine d_sk rfl rfl ((wanted_of (b := false) rfl rfl rfl (by simp only [val_set, ↓reduceIte, Nat.reduceEqDiff, v0, v1, v4, v5, v13, v14, v15] <;> rfl)).trans rfl) ?_
      refine d_rd rfl (r_pick (t := false) (by simp only [ev, envOf, val_set, ofValue, ofCell, ↓reduceIte, Nat.reduceEqDiff, v0, v1, v4, v5, v13, v14, v15] <;> rfl) (fun h => by cases h) (fun _ => (by simp only [ev, envOf, val_set, ofValue, ofCell, ↓reduceIte, Nat.reduceEqDiff, v0, v1, v4, v5, v13, v14, v15] <;> rfl))) rfl rfl ?_
      refine d_nil ?_
      refine w_cond (t := false) (by simp only [ev, envOf, val_set, ofValue, ofCell, ↓reduceIte, Nat.reduceEqDiff, v0, v1, v4, v5, v13, v14, v15] <;> rfl) (fun h => by cases h) (fun _ => ?_)
      refine w_skip ?_
      refine w_region ?_
      refine o_rd (r_addE (a := ((k : Nat) : Int)) (b := 1) (c := ((k + 1 : Nat) : Int)) (by simp only [ev, envOf, val_set, ofValue, ofCell, ↓reduceIte, Nat.reduceEqDiff, v0, v1, v4, v5, v13, v14, v15] <;> rfl) (by simp only [ev, envOf, val_set, ofValue, ofCell, ↓reduceIte, Nat.reduceEqDiff, v0, v1, v4, v5, v13, v14, v15] <;> rfl) (by omega) (by omega) (by omega)) rfl rfl ?_
      refine o_rd (r_move (by simp only [ev, envOf, val_set, ofValue, ofCell, ↓reduceIte, Nat.reduceEqDiff, v0, v1, v4, v5, v13, v14, v15] <;> rfl)) rfl rfl ?_
      refine o_nil ?_
      exact ⟨(m - 1), (by omega), _, H5, k + 1, rfl, (by simp only [val_set, ↓reduceIte, Nat.reduceEqDiff, v0, v1, v4, v5, v13, v14, v15] <;> rfl), (by simp only [val_set, ↓reduceIte, Nat.reduceEqDiff, v0, v1, v4, v5, v13, v14, v15] <;> rfl), (by simp only [val_set, ↓reduceIte, Nat.reduceEqDiff, v0, v1, v4, v5, v13, v14, v15] <;> rfl), (by simp only [val_set, ↓reduceIte, Nat.reduceEqDiff, v0, v1, v4, v5, v13, v14, v15] <;> rfl), (by simp only [val_set, ↓reduceIte, Nat.reduceEqDiff, v0, v1, v4, v5, v13, v14, v15] <;> rfl), (by simp only [val_set, ↓reduceIte, Nat.reduceEqDiff, v0, v1, v4, v5, v13, v14, v15] <;> rfl), (by simp only [val_set, ↓reduceIte, Nat.reduceEqDiff, v0, v1, v4, v5, v13, v14, v15] <;> rfl), W5, E5, A2, (by omega), (by intro j hj; rcases Nat.lt_succ_iff_lt_or_eq.1 hj with hj | rfl; exact hok j hj; rw [htg]; simp [hc4, hg6])⟩
    · have hg6 := dec_t hg6
      refine d_rd rfl (r_move (by simp only [ev, envOf, val_set, ofValue, ofCell, ↓reduceIte, Nat.reduceEqDiff, v0, v1, v4, v5, v13, v14, v15] <;> rfl)) rfl ((wanted_of (b := true) rfl rfl rfl (by simp only [val_set, ↓reduceIte, Nat.reduceEqDiff, v0, v1, v4, v5, v13, v14, v15] <;> rfl)).trans rfl) ?_
      refine d_rd rfl (r_move (by simp only [ev, envOf, val_set, ofValue, ofCell, ↓reduceIte, Nat.reduceEqDiff, v0, v1, v4, v5, v13, v14, v15] <;> rfl)) rfl ((wanted_of (b := true) rfl rfl rfl (by simp only [val_set, ↓reduceIte, Nat.reduceEqDiff, v0, v1, v4, v5, v13, v14, v15] <;> rfl)).trans rfl) ?_
      refine d_rd rfl (r_indexAddr Tryd.underlying28 Ty.csz24 (by simp only [ev, envOf, val_set, ofValue, ofCell, ↓reduceIte, Nat.reduceEqDiff, v0, v1, v4, v5, v13, v14, v15] <;> rfl) (by simp only [ev, envOf, val_set, ofValue, ofCell, ↓reduceIte, Nat.reduceEqDiff, v0, v1, v4, v5, v13, v14, v15] <;> rfl) hal) rfl ((wanted_of (b := true) rfl rfl rfl (by simp only [val_set, ↓reduceIte, Nat.reduceEqDiff, v0, v1, v4, v5, v13, v14, v15] <;> rfl)).trans rfl) ?_
      refine d_rd rfl (r_loadN Ty.agg24 Ty.csz24 (by simp only [ev, envOf, val_set, ofValue, ofCell, ↓reduceIte, Nat.reduceEqDiff, v0, v1, v4, v5, v13, v14, v15] <;> rfl) (Ext.read (H := H0) (by assumption) hra)) rfl ((wanted_of (b := true) rfl rfl rfl (by simp only [val_set, ↓reduceIte, Nat.reduceEqDiff, v0, v1, v4, v5, v13, v14, v15] <;> rfl)).trans rfl) ?_
      refine d_rd rfl (r_loadN (cs := [.int .i64 (l[i].k), .int .i64 (l[i].at_), .sl loc2 (off2) (l[i].ks.length) cap2, .str (l[i].nm), .int .i64 (l[i].n)]) Ty.agg24 Ty.csz24 (by simp only [ev, envOf, val_set, ofValue, ofCell, ↓reduceIte, Nat.reduceEqDiff, v0, v1, v4, v5, v13, v14, v15] <;> rfl) (read_mt A2 (Nat.le_of_ble_eq_true rfl))) rfl ((wanted_of (b := true) rfl rfl rfl (by simp only [val_set, ↓reduceIte, Nat.reduceEqDiff, v0, v1, v4, v5, v13, v14, v15] <;> rfl)).trans rfl) ?_
      refine d_rd rfl (r_move (by simp only [ev, envOf, val_set, ofValue, ofCell, ↓reduceIte, Nat.reduceEqDiff, v0, v1, v4, v5, v13, v14, v15] <;> rfl)) rfl ((wanted_of (b := true) rfl rfl rfl (by simp only [val_set, ↓reduceIte, Nat.reduceEqDiff, v0, v1, v4, v5, v13, v14, v15] <;> rfl)).trans rfl) ?_
      refine d_cl rfl rfl rfl (by simp only [evs, ev, envOf, val_set, ofValue, ofCell, ↓reduceIte, Nat.reduceEqDiff, v0, v1, v4, v5, v13, v14, v15] <;> rfl) rfl (level_fin ho W5 l[a] ska) rfl ((wanted_of (b := true) rfl rfl rfl (by simp only [val_set, ↓reduceIte, Nat.reduceEqDiff, v0, v1, v4, v5, v13, v14, v15] <;> rfl)).trans rfl) ?_; rintro _ H7 ⟨rfl, X7⟩
      have W7 := X7.wf; have E7 := E5.trans X7
      have A2 := X7.keep _ _ A2
      have n7 := X7.n
      refine ⟨re_same (r_move (by simp only [ev, envOf, val_set, ofValue, ofCell, ↓reduceIte, Nat.reduceEqDiff, v0, v1, v4, v5, v13, v14, v15] <;> rfl)) (re_same (r_loadN (cs := [.int .i64 (l[i].k), .int .i64 (l[i].at_), .sl loc2 (off2) (l[i].ks.length) cap2, .str (l[i].nm), .int .i64 (l[i].n)]) Ty.agg24 Ty.csz24 (by simp only [ev, envOf, val_set, ofValue, ofCell, ↓reduceIte, Nat.reduceEqDiff, v0, v1, v4, v5, v13, v14, v15] <;> rfl) (read_mt A2 (Nat.le_of_ble_eq_true rfl))) (re_forcedL (M := 1023) (I := 9) rfl rfl (by decide) (re_forcedL (M := 1023) (I := 8) rfl rfl (by decide) (re_forcedL (M := 1023) (I := 7) rfl rfl (by decide) (re_forcedL (M := 1023) (I := 6) rfl rfl (by decide) (re_forcedL (M := 1023) (I := 5) rfl rfl (by decide) (re_forcedL (M := 1023) (I := 3) rfl rfl (by decide) (re_forcedL (M := 1023) (I := 2) rfl rfl (by decide) (re_forcedL (M := 1023) (I := 1) rfl rfl (by decide) (re_forcedL (M := 1023) (I := 0) rfl rfl (by decide) (re_nil))))))))))), ?_⟩
      refine d_cl rfl rfl rfl (by simp only [evs, ev, envOf, val_set, ofValue, ofCell, ↓reduceIte, Nat.reduceEqDiff, v0, v1, v4, v5, v13, v14, v15] <;> rfl) rfl (least_fin ho W7 l[i] _ (((k : Nat) : Int))) rfl ((wanted_of (b := true) rfl rfl rfl (by simp only [val_set, ↓reduceIte, Nat.reduceEqDiff, v0, v1, v4, v5, v13, v14, v15] <;> rfl)).trans rfl) ?_; rintro _ H8 ⟨rfl, X8⟩
      have W8 := X8.wf; have E8 := E7.trans X8
      have A2 := X8.keep _ _ A2
      have n8 := X8.n
      refine ⟨re_forcedL (M := 8191) (I := 12) rfl rfl (by decide) (re_forcedL (M := 8191) (I := 11) rfl rfl (by decide) (re_forcedL (M := 8191) (I := 9) rfl rfl (by decide) (re_forcedL (M := 8191) (I := 8) rfl rfl (by decide) (re_forcedL (M := 8191) (I := 7) rfl rfl (by decide) (re_forcedL (M := 8191) (I := 6) rfl rfl (by decide) (re_forcedL (M := 8191) (I := 5) rfl rfl (by decide) (re_forcedL (M := 8191) (I := 3) rfl rfl (by decide) (re_forcedL (M := 8191) (I := 2) rfl rfl (by decide) (re_forcedL (M := 8191) (I := 1) rfl rfl (by decide) (re_forcedL (M := 8191) (I := 0) rfl rfl (by decide) (re_nil))))))))))), ?_⟩
      refine d_rd rfl (r_lt (a := levelF l[a].k l[a].n) (b := leastF l[i].k l[i].n (((k : Nat) : Int))) (by simp only [ev, envOf, val_set, ofValue, ofCell, ↓reduceIte, Nat.reduceEqDiff, v0, v1, v4, v5, v13, v14, v15] <;> rfl) (by simp only [ev, envOf, val_set, ofValue, ofCell, ↓reduceIte, Nat.reduceEqDiff, v0, v1, v4, v5, v13, v14, v15] <;> rfl)) rfl ((wanted_of (b := true) rfl rfl rfl (by simp only [val_set, ↓reduceIte, Nat.reduceEqDiff, v0, v1, v4, v5, v13, v14, v15] <;> rfl)).trans rfl) ?_
      refine d_rd rfl (r_pick (t := true) (by simp only [ev, envOf, val_set, ofValue, ofCell, ↓reduceIte, Nat.reduceEqDiff, v0, v1, v4, v5, v13, v14, v15] <;> rfl) (fun _ => (by simp only [ev, envOf, val_set, ofValue, ofCell, ↓reduceIte, Nat.reduceEqDiff, v0, v1, v4, v5, v13, v14, v15] <;> rfl)) (fun h => by cases h)) rfl rfl ?_
      refine d_nil ?_
      refine w_cond (by simp only [ev, envOf, val_set, ofValue, ofCell, ↓reduceIte, Nat.reduceEqDiff, v0, v1, v4, v5, v13, v14, v15] <;> rfl) (fun hB9 => ?_) (fun hB9 => ?_)
      · have hc9 := dec_t hB9
        refine w_seq ?_
        refine w_region ?_
        refine o_rd (r_assign (by simp only [ev, envOf, val_set, ofValue, ofCell, ↓reduceIte, Nat.reduceEqDiff, v0, v1, v4, v5, v13, v14, v15] <;> rfl)) rfl rfl ?_
        refine o_nil ?_
        refine w_ret ⟨.inr rfl, rfl, .bool (false), (show resultA Tryd.prog [.tmp 4] _ = _ by simp only [resultA, resultsA, envOf, val_set, ↓reduceIte, Nat.reduceEqDiff, Option.map_some, v0, v1, v4, v5, v13, v14, v15] <;> rfl), ?_⟩
        try dsimp only
        exact ⟨congrArg AV.bool (by first | (rw [levelsB_at hi, tightAll_f hk1 (by rw [htg]; simp [hc4, hg6, hc9])]; rfl) | (rw [levelsB_at hi, tightAll_t (fun j hj => hok j (by omega)), hhd]; simp [hc4, hg6, hc9]) | (rw [levelsB_at hi, tightAll_t (fun j hj => hok j (by omega))]; simp [hc4, hg6, hc9])), E8⟩
      · have hc9 := dec_f hB9
        refine w_skip ?_
        refine w_region ?_
        refine o_rd (r_addE (a := ((k : Nat) : Int)) (b := 1) (c := ((k + 1 : Nat) : Int)) (by simp only [ev, envOf, val_set, ofValue, ofCell, ↓reduceIte, Nat.reduceEqDiff, v0, v1, v4, v5, v13, v14, v15] <;> rfl) (by simp only [ev, envOf, val_set, ofValue, ofCell, ↓reduceIte, Nat.reduceEqDiff, v0, v1, v4, v5, v13, v14, v15] <;> rfl) (by omega) (by omega) (by omega)) rfl rfl ?_
        refine o_rd (r_move (by simp only [ev, envOf, val_set, ofValue, ofCell, ↓reduceIte, Nat.reduceEqDiff, v0, v1, v4, v5, v13, v14, v15] <;> rfl)) rfl rfl ?_
        refine o_nil ?_
        exact ⟨(m - 1), (by omega), _, H8, k + 1, rfl, (by simp only [val_set, ↓reduceIte, Nat.reduceEqDiff, v0, v1, v4, v5, v13, v14, v15] <;> rfl), (by simp only [val_set, ↓reduceIte, Nat.reduceEqDiff, v0, v1, v4, v5, v13, v14, v15] <;> rfl), (by simp only [val_set, ↓reduceIte, Nat.reduceEqDiff, v0, v1, v4, v5, v13, v14, v15] <;> rfl), (by simp only [val_set, ↓reduceIte, Nat.reduceEqDiff, v0, v1, v4, v5, v13, v14, v15] <;> rfl), (by simp only [val_set, ↓reduceIte, Nat.reduceEqDiff, v0, v1, v4, v5, v13, v14, v15] <;> rfl), (by simp only [val_set, ↓reduceIte, Nat.reduceEqDiff, v0, v1, v4, v5, v13, v14, v15] <;> rfl), (by simp only [val_set, ↓reduceIte, Nat.reduceEqDiff, v0, v1, v4, v5, v13, v14, v15] <;> rfl), W8, E8, A2, (by omega), (by intro j hj; rcases Nat.lt_succ_iff_lt_or_eq.1 hj with hj | rfl; exact hok j hj; rw [htg]; simp [hc4, hg6, hc9])⟩
  · have hc4 := dec_f hB4
    first | refine w_exit (blk_exit ?_) | refine w_exit (show (0 = 0 → _) ∧ (0 ≠ 0 → _) from ⟨fun _ => ?_, fun c => absurd rfl c⟩)
    refine w_seq ?_
    refine w_region ?_
    refine o_rd (r_fieldAddr Ty.fo24_0 (by simp only [ev, envOf, val_set, ofValue, ofCell, ↓reduceIte, Nat.reduceEqDiff, v0, v1, v4, v5, v13, v14, v15] <;> rfl)) rfl rfl ?_
    refine o_rd (r_load1 (v := .int .i64 (l[i].k)) Ty.agg3 (by simp only [ev, envOf, val_set, ofValue, ofCell, ↓reduceIte, Nat.reduceEqDiff, v0, v1, v4, v5, v13, v14, v15] <;> rfl) (read_mt A2 (Nat.le_of_ble_eq_true rfl))) rfl rfl ?_
    refine o_rd (r_ne (a := l[i].k) (b := 44) (by simp only [ev, envOf, val_set, ofValue, ofCell, ↓reduceIte, Nat.reduceEqDiff, v0, v1, v4, v5, v13, v14, v15] <;> rfl) (by simp only [ev, envOf, val_set, ofValue, ofCell, ↓reduceIte, Nat.reduceEqDiff, v0, v1, v4, v5, v13, v14, v15] <;> rfl)) rfl rfl ?_
    refine o_rd (r_move (by simp only [ev, envOf, val_set, ofValue, ofCell, ↓reduceIte, Nat.reduceEqDiff, v0, v1, v4, v5, v13, v14, v15] <;> rfl)) rfl rfl ?_
    cases hg10 : (decide (l[i].k ≠ 44) : Bool)
    · have hg10 := dec_fn hg10
      have hk0 : 0 < l[i].ks.length := hsend (by omega)
      obtain ⟨a, ha⟩ : ∃ a : Nat, l[i].ks[0] = (a : Int) := ⟨(l[i].ks[0]).toNat, by have := hks 0 hk0; omega⟩
      have hai : a < i := by have := hks 0 hk0; omega
      have hhd : (l[i].ks.headD 0).toNat = a := by rw [List.headD_eq_head?_getD, List.head?_eq_getElem?, List.getElem?_eq_getElem hk0, ha]; rfl
      obtain ⟨loc2, off2, cap2, rfl, hr2⟩ := hK.get hk0
      rw [ha] at hr2
      refine o_rd (r_move (by simp only [ev, envOf, val_set, ofValue, ofCell, ↓reduceIte, Nat.reduceEqDiff, v0, v1, v4, v5, v13, v14, v15] <;> rfl)) rfl ((wanted_of (b := false) rfl rfl rfl (by simp only [val_set, ↓reduceIte, Nat.reduceEqDiff, v0, v1, v4, v5, v13, v14, v15] <;> rfl)).trans rfl) ?_
      refine o_rd (r_fieldAddr Ty.fo24_2 (by simp only [ev, envOf, val_set, ofValue, ofCell, ↓reduceIte, Nat.reduceEqDiff, v0, v1, v4, v5, v13, v14, v15] <;> rfl)) rfl ((wanted_of (b := false) rfl rfl rfl (by simp only [val_set, ↓reduceIte, Nat.reduceEqDiff, v0, v1, v4, v5, v13, v14, v15] <;> rfl)).trans rfl) ?_
      refine o_rd (r_load1 (v := .sl loc2 (off2) (l[i].ks.length) cap2) Ty.agg22 (by simp only [ev, envOf, val_set, ofValue, ofCell, ↓reduceIte, Nat.reduceEqDiff, v0, v1, v4, v5, v13, v14, v15] <;> rfl) (read_mt A2 (Nat.le_of_ble_eq_true rfl))) rfl ((wanted_of (b := false) rfl rfl rfl (by simp only [val_set, ↓reduceIte, Nat.reduceEqDiff, v0, v1, v4, v5, v13, v14, v15] <;> rfl)).trans rfl) ?_
      refine o_rd (r_indexAddr Tryd.underlying22 Ty.csz3 (by simp only [ev, envOf, val_set, ofValue, ofCell, ↓reduceIte, Nat.reduceEqDiff, v0, v1, v4, v5, v13, v14, v15] <;> rfl) (by simp only [ev, envOf, val_set, ofValue, ofCell, ↓reduceIte, Nat.reduceEqDiff, v0, v1, v4, v5, v13, v14, v15] <;> rfl) hk0) rfl ((wanted_of (b := false) rfl rfl rfl (by simp only [val_set, ↓reduceIte, Nat.reduceEqDiff, v0, v1, v4, v5, v13, v14, v15] <;> rfl)).trans rfl) ?_
      refine o_rd (r_load1 Ty.agg3 (by simp only [ev, envOf, val_set, ofValue, ofCell, ↓reduceIte, Nat.reduceEqDiff, v0, v1, v4, v5, v13, v14, v15] <;> rfl) (Ext.read (H := H0) (by assumption) hr2)) rfl ((wanted_of (b := false) rfl rfl rfl (by simp only [val_set, ↓reduceIte, Nat.reduceEqDiff, v0, v1, v4, v5, v13, v14, v15] <;> rfl)).trans rfl) ?_
      refine o_cl rfl rfl (by simp only [evs, ev, envOf, val_set, ofValue, ofCell, ↓reduceIte, Nat.reduceEqDiff, v0, v1, v4, v5, v13, v14, v15] <;> rfl) rfl (receives_fin ho W3 l _ i a (hL.ext E3) G hai (by omega)) rfl ((wanted_of (b := false) rfl rfl rfl (by simp only [val_set, ↓reduceIte, Nat.reduceEqDiff, v0, v1, v4, v5, v13, v14, v15] <;> rfl)).trans rfl) ?_; rintro _ H11 ⟨rfl, X11⟩
      have W11 := X11.wf; have E11 := E3.trans X11
      have A2 := X11.keep _ _ A2
      have n11 := X11.n
      refine o_rd (r_not (by simp only [ev, envOf, val_set, ofValue, ofCell, ↓reduceIte, Nat.reduceEqDiff, v0, v1, v4, v5, v13, v14, v15] <;> rfl)) rfl ((wanted_of (b := false) rfl rfl rfl (by simp only [val_set, ↓reduceIte, Nat.reduceEqDiff, v0, v1, v4, v5, v13, v14, v15] <;> rfl)).trans rfl) ?_
      refine o_rd (r_pick (t := false) (by simp only [ev, envOf, val_set, ofValue, ofCell, ↓reduceIte, Nat.reduceEqDiff, v0, v1, v4, v5, v13, v14, v15] <;> rfl) (fun h => by cases h) (fun _ => (by simp only [ev, envOf, val_set, ofValue, ofCell, ↓reduceIte, Nat.reduceEqDiff, v0, v1, v4, v5, v13, v14, v15] <;> rfl))) rfl rfl ?_
      refine o_rd (r_assign (by simp only [ev, envOf, val_set, ofValue, ofCell, ↓reduceIte, Nat.reduceEqDiff, v0, v1, v4, v5, v13, v14, v15] <;> rfl)) rfl rfl ?_
      refine o_nil ?_
      refine w_ret ⟨.inr rfl, rfl, .bool (!(recv l a)), (show resultA Tryd.prog [.tmp 4] _ = _ by simp only [resultA, resultsA, envOf, val_set, ↓reduceIte, Nat.reduceEqDiff, Option.map_some, v0, v1, v4, v5, v13, v14, v15] <;> rfl), ?_⟩
      try dsimp only
      exact ⟨congrArg AV.bool (by first | (rw [levelsB_at hi, tightAll_f hk1 (by rw [htg]; simp [hc4, hg10])]; rfl) | (rw [levelsB_at hi, tightAll_t (fun j hj => hok j (by omega)), hhd]; simp [hc4, hg10]) | (rw [levelsB_at hi, tightAll_t (fun j hj => hok j (by omega))]; simp [hc4, hg10])), E11⟩
    · have hg10 := dec_t hg10
      refine o_sk rfl ((wanted_of (b := true) rfl rfl rfl (by simp only [val_set, ↓reduceIte, Nat.reduceEqDiff, v0, v1, v4, v5, v13, v14, v15] <;> rfl)).trans rfl) ?_
      refine o_sk rfl ((wanted_of (b := true) rfl rfl rfl (by simp only [val_set, ↓reduceIte, Nat.reduceEqDiff, v0, v1, v4, v5, v13, v14, v15] <;> rfl)).trans rfl) ?_
      refine o_sk rfl ((wanted_of (b := true) rfl rfl rfl (by simp only [val_set, ↓reduceIte, Nat.reduceEqDiff, v0, v1, v4, v5, v13, v14, v15] <;> rfl)).trans rfl) ?_
      refine o_sk rfl ((wanted_of (b := true) rfl rfl rfl (by simp only [val_set, ↓reduceIte, Nat.reduceEqDiff, v0, v1, v4, v5, v13, v14, v15] <;> rfl)).trans rfl) ?_
      refine o_sk rfl ((wanted_of (b := true) rfl rfl rfl (by simp only [val_set, ↓reduceIte, Nat.reduceEqDiff, v0, v1, v4, v5, v13, v14, v15] <;> rfl)).trans rfl) ?_
      refine o_sk rfl ((wanted_of (b := true) rfl rfl rfl (by simp only [val_set, ↓reduceIte, Nat.reduceEqDiff, v0, v1, v4, v5, v13, v14, v15] <;> rfl)).trans rfl) ?_
      refine o_sk rfl ((wanted_of (b := true) rfl rfl rfl (by simp only [val_set, ↓reduceIte, Nat.reduceEqDiff, v0, v1, v4, v5, v13, v14, v15] <;> rfl)).trans rfl) ?_
      refine o_rd (r_pick (t := true) (by simp only [ev, envOf, val_set, ofValue, ofCell, ↓reduceIte, Nat.reduceEqDiff, v0, v1, v4, v5, v13, v14, v15] <;> rfl) (fun _ => (by simp only [ev, envOf, val_set, ofValue, ofCell, ↓reduceIte, Nat.reduceEqDiff, v0, v1, v4, v5, v13, v14, v15] <;> rfl)) (fun h => by cases h)) rfl rfl ?_
      refine o_rd (r_assign (by simp only [ev, envOf, val_set, ofValue, ofCell, ↓reduceIte, Nat.reduceEqDiff, v0, v1, v4, v5, v13, v14, v15] <;> rfl)) rfl rfl ?_
      refine o_nil ?_
      refine w_ret ⟨.inr rfl, rfl, .bool (true), (show resultA Tryd.prog [.tmp 4] _ = _ by simp only [resultA, resultsA, envOf, val_set, ↓reduceIte, Nat.reduceEqDiff, Option.map_some, v0, v1, v4, v5, v13, v14, v15] <;> rfl), ?_⟩
      try dsimp only
      exact ⟨congrArg AV.bool (by first | (rw [levelsB_at hi, tightAll_f hk1 (by rw [htg]; simp [hc4, hg10])]; rfl) | (rw [levelsB_at hi, tightAll_t (fun j hj => hok j (by omega)), hhd]; simp [hc4, hg10]) | (rw [levelsB_at hi, tightAll_t (fun j hj => hok j (by omega))]; simp [hc4, hg10])), E3⟩
end Go.Proofs.YtpdphdbphhaekaaDoor.Vs
