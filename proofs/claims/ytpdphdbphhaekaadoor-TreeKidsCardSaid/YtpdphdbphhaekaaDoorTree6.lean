/-
  Whether a node's kids are of the right classes, and in order.
-/
import Derived.Test.YtpdphdbphhaekaaDoorTree5
set_option autoImplicit false
set_option linter.unusedVariables false
set_option linter.unusedSimpArgs false
namespace Go.Proofs.YtpdphdbphhaekaaDoor.Vs
open Go.VI Go.Proofs
variable {orc : CallF}
/-- a kid's node may stand at that place of a node -/
def fitsP (v w : ND) (k : Nat) : Prop := isP w.k (wantsF v.k v.n k v.ks.length).1 ∨ (v.k = 36 ∧ k = 2 ∧ w.k = 36)
instance (v w : ND) (k : Nat) : Decidable (fitsP v w k) := by unfold fitsP; infer_instance
/-- the kids below k, the last of which has to be next -/
def kidsGo (l : List ND) (v : ND) (fs : List Int) : Nat → Int → Bool
  | 0, _ => true
  | k + 1, next => match v.ks[k]? with
    | none => false
    | some kid => if kid < 0 ∨ kid ≠ next then false else match l[kid.toNat]? with
      | none => false
      | some w => if fitsP v w k then kidsGo l v fs k (fs.getD kid.toNat 0 - 1) else false
def kidsB (l : List ND) (i : Nat) (fs : List Int) : Bool := match l[i]? with
  | none => false
  | some v => if v.ks.length < (wantsF v.k v.n 0 v.ks.length).2.1 ∨ v.ks.length > (wantsF v.k v.n 0 v.ks.length).2.2 then false else kidsGo l v fs v.ks.length (i - 1)
theorem kidsGo_bad {l : List ND} {v : ND} {fs : List Int} {k : Nat} {next : Int} (hk : k < v.ks.length) (h : v.ks[k] < 0 ∨ v.ks[k] ≠ next) : kidsGo l v fs (k + 1) next = false := by
  simp only [kidsGo, List.getElem?_eq_getElem hk]
  rw [if_pos h]
theorem kidsGo_unfit {l : List ND} {v : ND} {fs : List Int} {k a : Nat} {next : Int} (hk : k < v.ks.length) (h : v.ks[k] = (a : Int)) (hn : next = (a : Int)) (ha : a < l.length) (hf : ¬ fitsP v l[a] k) : kidsGo l v fs (k + 1) next = false := by
  simp only [kidsGo, List.getElem?_eq_getElem hk]
  rw [if_neg (by omega), h]
  simp only [Int.toNat_natCast, List.getElem?_eq_getElem ha]
  rw [if_neg hf]
theorem kidsGo_fit {l : List ND} {v : ND} {fs : List Int} {k a : Nat} {next : Int} (hk : k < v.ks.length) (h : v.ks[k] = (a : Int)) (hn : next = (a : Int)) (ha : a < l.length) (hf : fitsP v l[a] k) (hs : a < fs.length) : kidsGo l v fs (k + 1) next = kidsGo l v fs k (fs[a] - 1) := by
  simp only [kidsGo, List.getElem?_eq_getElem hk]
  rw [if_neg (by omega), h]
  simp only [Int.toNat_natCast, List.getElem?_eq_getElem ha]
  rw [if_pos hf]
  simp [List.getD_eq_getElem?_getD, List.getElem?_eq_getElem hs]
theorem kidsB_at {l : List ND} {i : Nat} {fs : List Int} (hi : i < l.length) : kidsB l i fs = if l[i].ks.length < (wantsF l[i].k l[i].n 0 l[i].ks.length).2.1 ∨ l[i].ks.length > (wantsF l[i].k l[i].n 0 l[i].ks.length).2.2 then false else kidsGo l l[i] fs l[i].ks.length (i - 1) := by
  simp only [kidsB, List.getElem?_eq_getElem hi]
set_option maxRecDepth 100000 in
set_option maxHeartbeats 4000000 in
theorem kids_fin (ho : NoOrcBut [8, 64, 65] orc) {H0 : AH} (W0 : Wf H0) (l : List ND) (sl : AV) (i : Nat) (fs : List Int) (sf : AV) (hL : NS H0 l sl) (hi : i < l.length) (hfl : fs.length = l.length) (hF : SI H0 fs sf) (hlt : ∀ j, (h : j < fs.length) → fs[j] ≤ j ∧ 0 ≤ fs[j]) : Fin Tryd.prog orc 27 [sl, .int .i64 (((i : Nat) : Int)), sf] H0 (fun r H' => r = .bool (kidsB l i fs) ∧ Ext H0 H') := by
  have E0 := Ext.refl W0
  refine fin_of Tryd.func27 rfl (by rw [Tryd.ntmps27]; simp) (ho _ rfl _ _) ?_
  rw [Tryd.ntmps27]
  refine w_seq ?_
  refine w_region ?_
  refine o_rd (r_assign (by simp only [ev, envOf, val_set, ofValue, ofCell, ↓reduceIte, Nat.reduceEqDiff] <;> rfl)) rfl rfl ?_
  refine o_nil ?_
  refine w_seq ?_
  refine w_region ?_
  obtain ⟨loc1, off1, cap1, sk, rfl, hr1, hK⟩ := hL.get hi
  have hkb := hK.bound
  have hlb := hL.bound
  refine o_rd (r_move (by simp only [ev, envOf, val_set, ofValue, ofCell, ↓reduceIte, Nat.reduceEqDiff] <;> rfl)) rfl rfl ?_
  refine o_rd (r_move (by simp only [ev, envOf, val_set, ofValue, ofCell, ↓reduceIte, Nat.reduceEqDiff] <;> rfl)) rfl rfl ?_
  refine o_rd (r_indexAddr Tryd.underlying28 Ty.csz24 (by simp only [ev, envOf, val_set, ofValue, ofCell, ↓reduceIte, Nat.reduceEqDiff] <;> rfl) (by simp only [ev, envOf, val_set, ofValue, ofCell, ↓reduceIte, Nat.reduceEqDiff] <;> rfl) hi) rfl rfl ?_
  refine o_rd (r_loadN Ty.agg24 Ty.csz24 (by simp only [ev, envOf, val_set, ofValue, ofCell, ↓reduceIte, Nat.reduceEqDiff] <;> rfl) (Ext.read (H := H0) (by assumption) hr1)) rfl rfl ?_
  refine o_nw W0 (a_alloc Ty.zero24) rfl rfl rfl (by simp) ?_; intro H1 n1 W1 X1 A1
  have A1 : H1.at H0.n = some (.row [.int .i64 (0), .int .i64 (0), .nils, .str ([]), .int .i64 (0)] 24 false none) := A1
  have E1 := E0.trans X1
  have g1 : H0.n ≤ H0.n := E0.n
  refine o_st W1 (by simp only [ev, envOf, val_set, ofValue, ofCell, ↓reduceIte, Nat.reduceEqDiff] <;> rfl) (by simp only [ev, envOf, val_set, ofValue, ofCell, ↓reduceIte, Nat.reduceEqDiff] <;> rfl) A1 Ty.csz24 rfl (Nat.le_of_ble_eq_true rfl) (by first | rfl | (exact (NA.of hK).ones)) rfl rfl ?_; intro H2 n2 W2 A2 K2
  have A2 : H2.at H0.n = some (.row [.int .i64 (l[i].k), .int .i64 (l[i].at_), sk, .str (l[i].nm), .int .i64 (l[i].n)] 24 false none) := A2
  have E2 := Ext.put W0 E1 (by have := E1.n; omega) K2 n2 W2
  refine o_nil ?_
  refine w_seq ?_
  refine w_region ?_
  refine o_rd (r_loadN (cs := [.int .i64 (l[i].k), .int .i64 (l[i].at_), sk, .str (l[i].nm), .int .i64 (l[i].n)]) Ty.agg24 Ty.csz24 (by simp only [ev, envOf, val_set, ofValue, ofCell, ↓reduceIte, Nat.reduceEqDiff] <;> rfl) (read_mt A2 (Nat.le_of_ble_eq_true rfl))) rfl rfl ?_
  refine o_cl rfl rfl (by simp only [evs, ev, envOf, val_set, ofValue, ofCell, ↓reduceIte, Nat.reduceEqDiff] <;> rfl) rfl (wants_fin ho W2 l[i] _ (0) (hK.ext E2)) rfl rfl ?_; rintro _ H3 ⟨rfl, X3⟩
  have W3 := X3.wf; have E3 := E2.trans X3
  have A2 := X3.keep _ _ A2
  have n3 := X3.n
  refine o_rd (r_move (by simp only [ev, envOf, val_set, ofValue, ofCell, ↓reduceIte, Nat.reduceEqDiff] <;> rfl)) rfl rfl ?_
  refine o_rd (r_extract (by simp only [ev, envOf, val_set, ofValue, ofCell, ↓reduceIte, Nat.reduceEqDiff] <;> rfl) rfl) rfl rfl ?_
  refine o_rd (r_extract (by simp only [ev, envOf, val_set, ofValue, ofCell, ↓reduceIte, Nat.reduceEqDiff] <;> rfl) rfl) rfl rfl ?_
  refine o_rd (r_extract (by simp only [ev, envOf, val_set, ofValue, ofCell, ↓reduceIte, Nat.reduceEqDiff] <;> rfl) rfl) rfl rfl ?_
  refine o_rd (r_assign (by simp only [ev, envOf, val_set, ofValue, ofCell, ↓reduceIte, Nat.reduceEqDiff] <;> rfl)) rfl rfl ?_
  refine o_rd (r_assign (by simp only [ev, envOf, val_set, ofValue, ofCell, ↓reduceIte, Nat.reduceEqDiff] <;> rfl)) rfl rfl ?_
  refine o_rd (r_assign (by simp only [ev, envOf, val_set, ofValue, ofCell, ↓reduceIte, Nat.reduceEqDiff] <;> rfl)) rfl rfl ?_
  refine o_nil ?_
  refine w_seq ?_
  refine w_seq ?_
  refine w_region ?_
  refine o_rd (r_fieldAddr Ty.fo24_2 (by simp only [ev, envOf, val_set, ofValue, ofCell, ↓reduceIte, Nat.reduceEqDiff] <;> rfl)) rfl rfl ?_
  refine o_rd (r_load1 (v := sk) Ty.agg22 (by simp only [ev, envOf, val_set, ofValue, ofCell, ↓reduceIte, Nat.reduceEqDiff] <;> rfl) (read_mt A2 (Nat.le_of_ble_eq_true rfl))) rfl rfl ?_
  refine o_rd (r_len (n := l[i].ks.length) Tryd.underlying22 (by simp only [ev, envOf, val_set, ofValue, ofCell, ↓reduceIte, Nat.reduceEqDiff] <;> rfl) hK.lenOf) rfl rfl ?_
  refine o_rd (r_move (by simp only [ev, envOf, val_set, ofValue, ofCell, ↓reduceIte, Nat.reduceEqDiff] <;> rfl)) rfl rfl ?_
  refine o_rd (r_lt (a := ((l[i].ks.length : Nat) : Int)) (b := (wantsF l[i].k l[i].n (0) l[i].ks.length).2.1) (by simp only [ev, envOf, val_set, ofValue, ofCell, ↓reduceIte, Nat.reduceEqDiff] <;> rfl) (by simp only [ev, envOf, val_set, ofValue, ofCell, ↓reduceIte, Nat.reduceEqDiff] <;> rfl)) rfl rfl ?_
  refine o_rd (r_move (by simp only [ev, envOf, val_set, ofValue, ofCell, ↓reduceIte, Nat.reduceEqDiff] <;> rfl)) rfl rfl ?_
  cases hg4 : (decide (((l[i].ks.length : Nat) : Int) < (wantsF l[i].k l[i].n (0) l[i].ks.length).2.1) : Bool)
  · have hg4 := dec_f hg4
    refine o_rd (r_fieldAddr Ty.fo24_2 (by simp only [ev, envOf, val_set, ofValue, ofCell, ↓reduceIte, Nat.reduceEqDiff] <;> rfl)) rfl ((wanted_of (b := false) rfl rfl rfl (by simp only [val_set, ↓reduceIte, Nat.reduceEqDiff] <;> rfl)).trans rfl) ?_
    refine o_rd (r_load1 (v := sk) Ty.agg22 (by simp only [ev, envOf, val_set, ofValue, ofCell, ↓reduceIte, Nat.reduceEqDiff] <;> rfl) (read_mt A2 (Nat.le_of_ble_eq_true rfl))) rfl ((wanted_of (b := false) rfl rfl rfl (by simp only [val_set, ↓reduceIte, Nat.reduceEqDiff] <;> rfl)).trans rfl) ?_
    refine o_rd (r_len (n := l[i].ks.length) Tryd.underlying22 (by simp only [ev, envOf, val_set, ofValue, ofCell, ↓reduceIte, Nat.reduceEqDiff] <;> rfl) hK.lenOf) rfl ((wanted_of (b := false) rfl rfl rfl (by simp only [val_set, ↓reduceIte, Nat.reduceEqDiff] <;> rfl)).trans rfl) ?_
    refine o_rd (r_move (by simp only [ev, envOf, val_set, ofValue, ofCell, ↓reduceIte, Nat.reduceEqDiff] <;> rfl)) rfl ((wanted_of (b := false) rfl rfl rfl (by simp only [val_set, ↓reduceIte, Nat.reduceEqDiff] <;> rfl)).trans rfl) ?_
    refine o_rd (r_gt (a := ((l[i].ks.length : Nat) : Int)) (b := (wantsF l[i].k l[i].n (0) l[i].ks.length).2.2) (by simp only [ev, envOf, val_set, ofValue, ofCell, ↓reduceIte, Nat.reduceEqDiff] <;> rfl) (by simp only [ev, envOf, val_set, ofValue, ofCell, ↓reduceIte, Nat.reduceEqDiff] <;> rfl)) rfl ((wanted_of (b := false) rfl rfl rfl (by simp only [val_set, ↓reduceIte, Nat.reduceEqDiff] <;> rfl)).trans rfl) ?_
    refine o_rd (r_pick (t := false) (by simp only [ev, envOf, val_set, ofValue, ofCell, ↓reduceIte, Nat.reduceEqDiff] <;> rfl) (fun h => by cases h) (fun _ => (by simp only [ev, envOf, val_set, ofValue, ofCell, ↓reduceIte, Nat.reduceEqDiff] <;> rfl))) rfl rfl ?_
    refine o_nil ?_
    refine w_cond (by simp only [ev, envOf, val_set, ofValue, ofCell, ↓reduceIte, Nat.reduceEqDiff] <;> rfl) (fun hB5 => ?_) (fun hB5 => ?_)
    · have hc5 := dec_t hB5
      refine w_seq ?_
      refine w_region ?_
      refine o_rd (r_assign (by simp only [ev, envOf, val_set, ofValue, ofCell, ↓reduceIte, Nat.reduceEqDiff] <;> rfl)) rfl rfl ?_
      refine o_nil ?_
      refine w_ret ⟨.inr rfl, rfl, .bool (false), (show resultA Tryd.prog [.tmp 6] _ = _ by simp only [resultA, resultsA, envOf, val_set, ↓reduceIte, Nat.reduceEqDiff, Option.map_some] <;> rfl), ?_⟩
      try dsimp only
      exact ⟨congrArg AV.bool (by first | (rw [kidsB_at hi, if_pos (by omega)]) | (rw [hgo, kidsGo_bad hk1 (by omega)]) | (rw [hgo, kidsGo_unfit hk1 hkd (by omega) hal (by unfold fitsP; intro hq; rcases hq with hq | hq; exact absurd hq (by assumption); omega)])), E3⟩
    · have hc5 := dec_f hB5
      refine w_skip ?_
      refine w_seq ?_
      refine w_region ?_
      refine o_rd (r_move (by simp only [ev, envOf, val_set, ofValue, ofCell, ↓reduceIte, Nat.reduceEqDiff] <;> rfl)) rfl rfl ?_
      refine o_rd (r_subE (a := ((i : Nat) : Int)) (b := 1) (c := ((i : Nat) : Int) - 1) (by simp only [ev, envOf, val_set, ofValue, ofCell, ↓reduceIte, Nat.reduceEqDiff] <;> rfl) (by simp only [ev, envOf, val_set, ofValue, ofCell, ↓reduceIte, Nat.reduceEqDiff] <;> rfl) (by omega) (by omega) (by omega)) rfl rfl ?_
      refine o_rd (r_assign (by simp only [ev, envOf, val_set, ofValue, ofCell, ↓reduceIte, Nat.reduceEqDiff] <;> rfl)) rfl rfl ?_
      refine o_nil ?_
      refine w_seq ?_
      refine w_seq ?_
      refine w_region ?_
      refine o_rd (r_fieldAddr Ty.fo24_2 (by simp only [ev, envOf, val_set, ofValue, ofCell, ↓reduceIte, Nat.reduceEqDiff] <;> rfl)) rfl rfl ?_
      refine o_rd (r_load1 (v := sk) Ty.agg22 (by simp only [ev, envOf, val_set, ofValue, ofCell, ↓reduceIte, Nat.reduceEqDiff] <;> rfl) (read_mt A2 (Nat.le_of_ble_eq_true rfl))) rfl rfl ?_
      refine o_rd (r_len (n := l[i].ks.length) Tryd.underlying22 (by simp only [ev, envOf, val_set, ofValue, ofCell, ↓reduceIte, Nat.reduceEqDiff] <;> rfl) hK.lenOf) rfl rfl ?_
      refine o_rd (r_subE (a := ((l[i].ks.length : Nat) : Int)) (b := 1) (c := ((l[i].ks.length : Nat) : Int) - 1) (by simp only [ev, envOf, val_set, ofValue, ofCell, ↓reduceIte, Nat.reduceEqDiff] <;> rfl) (by simp only [ev, envOf, val_set, ofValue, ofCell, ↓reduceIte, Nat.reduceEqDiff] <;> rfl) (by omega) (by omega) (by omega)) rfl rfl ?_
      refine o_rd (r_assign (by simp only [ev, envOf, val_set, ofValue, ofCell, ↓reduceIte, Nat.reduceEqDiff] <;> rfl)) rfl rfl ?_
      refine o_nil ?_
      refine w_block ?_
      refine w_loop (fun m s => ∃ (e : Env) (H : AH) (k : Nat) (kk : Int) (nx : Int), s = ⟨e, H, []⟩ ∧ e.val 0 = .sl loc1 (off1) (l.length) cap1 ∧ e.val 1 = .int .i64 (((i : Nat) : Int)) ∧ e.val 2 = sf ∧ e.val 6 = .bool (false) ∧ e.val 7 = .ptr (.mt (H0.n)) (0) ∧ e.val 11 = .int .i64 (nx) ∧ e.val 12 = .int .i64 (kk) ∧ Wf H ∧ Ext H0 H ∧ H.at (H0.n) = some (.row [.int .i64 (l[i].k), .int .i64 (l[i].at_), sk, .str (l[i].nm), .int .i64 (l[i].n)] 24 false none) ∧ (k ≤ l[i].ks.length) ∧ (k = m) ∧ (kk = (k : Int) - 1) ∧ (nx < i) ∧ (kidsB l i fs = kidsGo l l[i] fs k nx)) (l[i].ks.length) ⟨_, H3, l[i].ks.length, ((l[i].ks.length : Nat) : Int) - 1, ((i : Nat) : Int) - 1, rfl, (by simp only [val_set, ↓reduceIte, Nat.reduceEqDiff] <;> rfl), (by simp only [val_set, ↓reduceIte, Nat.reduceEqDiff] <;> rfl), (by simp only [val_set, ↓reduceIte, Nat.reduceEqDiff] <;> rfl), (by simp only [val_set, ↓reduceIte, Nat.reduceEqDiff] <;> rfl), (by simp only [val_set, ↓reduceIte, Nat.reduceEqDiff] <;> rfl), (by simp only [val_set, ↓reduceIte, Nat.reduceEqDiff] <;> rfl), (by simp only [val_set, ↓reduceIte, Nat.reduceEqDiff] <;> rfl), W3, E3, A2, (by omega), rfl, rfl, (by omega), (by rw [kidsB_at hi, if_neg (by omega)])⟩ ?_
      intro m s hi
      obtain ⟨e, H6, k, kk, nx, rfl, v0, v1, v2, v6, v7, v11, v12, W6, E6, A2, hk, hkm, hkk, hnx, hgo⟩ := hi
      have l6_0 := W6.lt A2
      refine w_seq ?_
      refine w_seq ?_
      refine w_region ?_
      refine o_rd (r_move (by simp only [ev, envOf, val_set, ofValue, ofCell, ↓reduceIte, Nat.reduceEqDiff, v0, v1, v2, v6, v7, v11, v12] <;> rfl)) rfl rfl ?_
      refine o_rd (r_ge (a := kk) (b := 0) (by simp only [ev, envOf, val_set, ofValue, ofCell, ↓reduceIte, Nat.reduceEqDiff, v0, v1, v2, v6, v7, v11, v12] <;> rfl) (by simp only [ev, envOf, val_set, ofValue, ofCell, ↓reduceIte, Nat.reduceEqDiff, v0, v1, v2, v6, v7, v11, v12] <;> rfl)) rfl rfl ?_
      refine o_nil ?_
      refine w_cond (by simp only [ev, envOf, val_set, ofValue, ofCell, ↓reduceIte, Nat.reduceEqDiff, v0, v1, v2, v6, v7, v11, v12] <;> rfl) (fun hB7 => ?_) (fun hB7 => ?_)
      · have hc7 := dec_t hB7
        refine w_skip ?_
        refine w_seq ?_
        refine w_block ?_
        refine w_seq ?_
        refine w_region ?_
        obtain ⟨k1, rfl⟩ : ∃ k1, k = k1 + 1 := ⟨k - 1, by omega⟩
        have hk1 : k1 < l[i].ks.length := by omega
        obtain rfl : kk = (k1 : Int) := by omega
        obtain ⟨loc2, off2, cap2, rfl, hr2⟩ := hK.get hk1
        obtain ⟨kd, hkd⟩ : ∃ kd, l[i].ks[k1] = kd := ⟨_, rfl⟩
        rw [hkd] at hr2
        refine o_rd (r_fieldAddr Ty.fo24_2 (by simp only [ev, envOf, val_set, ofValue, ofCell, ↓reduceIte, Nat.reduceEqDiff, v0, v1, v2, v6, v7, v11, v12] <;> rfl)) rfl rfl ?_
        refine o_rd (r_load1 (v := .sl loc2 (off2) (l[i].ks.length) cap2) Ty.agg22 (by simp only [ev, envOf, val_set, ofValue, ofCell, ↓reduceIte, Nat.reduceEqDiff, v0, v1, v2, v6, v7, v11, v12] <;> rfl) (read_mt A2 (Nat.le_of_ble_eq_true rfl))) rfl rfl ?_
        refine o_rd (r_move (by simp only [ev, envOf, val_set, ofValue, ofCell, ↓reduceIte, Nat.reduceEqDiff, v0, v1, v2, v6, v7, v11, v12] <;> rfl)) rfl rfl ?_
        refine o_rd (r_indexAddr Tryd.underlying22 Ty.csz3 (by simp only [ev, envOf, val_set, ofValue, ofCell, ↓reduceIte, Nat.reduceEqDiff, v0, v1, v2, v6, v7, v11, v12] <;> rfl) (by simp only [ev, envOf, val_set, ofValue, ofCell, ↓reduceIte, Nat.reduceEqDiff, v0, v1, v2, v6, v7, v11, v12] <;> rfl) hk1) rfl rfl ?_
        refine o_rd (r_load1 Ty.agg3 (by simp only [ev, envOf, val_set, ofValue, ofCell, ↓reduceIte, Nat.reduceEqDiff, v0, v1, v2, v6, v7, v11, v12] <;> rfl) (Ext.read (H := H0) (by assumption) hr2)) rfl rfl ?_
        refine o_rd (r_assign (by simp only [ev, envOf, val_set, ofValue, ofCell, ↓reduceIte, Nat.reduceEqDiff, v0, v1, v2, v6, v7, v11, v12] <;> rfl)) rfl rfl ?_
        refine o_nil ?_
        refine w_seq ?_
        refine w_seq ?_
        refine w_region ?_
        refine o_rd (r_move (by simp only [ev, envOf, val_set, ofValue, ofCell, ↓reduceIte, Nat.reduceEqDiff, v0, v1, v2, v6, v7, v11, v12] <;> rfl)) rfl rfl ?_
        refine o_rd (r_lt (a := kd) (b := 0) (by simp only [ev, envOf, val_set, ofValue, ofCell, ↓reduceIte, Nat.reduceEqDiff, v0, v1, v2, v6, v7, v11, v12] <;> rfl) (by simp only [ev, envOf, val_set, ofValue, ofCell, ↓reduceIte, Nat.reduceEqDiff, v0, v1, v2, v6, v7, v11, v12] <;> rfl)) rfl rfl ?_
        refine o_rd (r_move (by simp only [ev, envOf, val_set, ofValue, ofCell, ↓reduceIte, Nat.reduceEqDiff, v0, v1, v2, v6, v7, v11, v12] <;> rfl)) rfl rfl ?_
        cases hg8 : (decide (kd < 0) : Bool)
        · have hg8 := dec_f hg8
          refine o_rd (r_move (by simp only [ev, envOf, val_set, ofValue, ofCell, ↓reduceIte, Nat.reduceEqDiff, v0, v1, v2, v6, v7, v11, v12] <;> rfl)) rfl ((wanted_of (b := false) rfl rfl rfl (by simp only [val_set, ↓reduceIte, Nat.reduceEqDiff, v0, v1, v2, v6, v7, v11, v12] <;> rfl)).trans rfl) ?_
          refine o_rd (r_move (by simp only [ev, envOf, val_set, ofValue, ofCell, ↓reduceIte, Nat.reduceEqDiff, v0, v1, v2, v6, v7, v11, v12] <;> rfl)) rfl ((wanted_of (b := false) rfl rfl rfl (by simp only [val_set, ↓reduceIte, Nat.reduceEqDiff, v0, v1, v2, v6, v7, v11, v12] <;> rfl)).trans rfl) ?_
          refine o_rd (r_ne (a := kd) (b := nx) (by simp only [ev, envOf, val_set, ofValue, ofCell, ↓reduceIte, Nat.reduceEqDiff, v0, v1, v2, v6, v7, v11, v12] <;> rfl) (by simp only [ev, envOf, val_set, ofValue, ofCell, ↓reduceIte, Nat.reduceEqDiff, v0, v1, v2, v6, v7, v11, v12] <;> rfl)) rfl ((wanted_of (b := false) rfl rfl rfl (by simp only [val_set, ↓reduceIte, Nat.reduceEqDiff, v0, v1, v2, v6, v7, v11, v12] <;> rfl)).trans rfl) ?_
          refine o_rd (r_pick (t := false) (by simp only [ev, envOf, val_set, ofValue, ofCell, ↓reduceIte, Nat.reduceEqDiff, v0, v1, v2, v6, v7, v11, v12] <;> rfl) (fun h => by cases h) (fun _ => (by simp only [ev, envOf, val_set, ofValue, ofCell, ↓reduceIte, Nat.reduceEqDiff, v0, v1, v2, v6, v7, v11, v12] <;> rfl))) rfl rfl ?_
          refine o_nil ?_
          refine w_cond (by simp only [ev, envOf, val_set, ofValue, ofCell, ↓reduceIte, Nat.reduceEqDiff, v0, v1, v2, v6, v7, v11, v12] <;> rfl) (fun hB9 => ?_) (fun hB9 => ?_)
          · have hc9 := dec_t hB9
            refine w_seq ?_
            refine w_region ?_
            refine o_rd (r_assign (by simp only [ev, envOf, val_set, ofValue, ofCell, ↓reduceIte, Nat.reduceEqDiff, v0, v1, v2, v6, v7, v11, v12] <;> rfl)) rfl rfl ?_
            refine o_nil ?_
            refine w_ret ⟨.inr rfl, rfl, .bool (false), (show resultA Tryd.prog [.tmp 6] _ = _ by simp only [resultA, resultsA, envOf, val_set, ↓reduceIte, Nat.reduceEqDiff, Option.map_some, v0, v1, v2, v6, v7, v11, v12] <;> rfl), ?_⟩
            try dsimp only
            exact ⟨congrArg AV.bool (by first | (rw [kidsB_at hi, if_pos (by omega)]) | (rw [hgo, kidsGo_bad hk1 (by omega)]) | (rw [hgo, kidsGo_unfit hk1 hkd (by omega) hal (by unfold fitsP; intro hq; rcases hq with hq | hq; exact absurd hq (by assumption); omega)])), E6⟩
          · have hc9 := dec_fn hB9
            refine w_skip ?_
            refine w_seq ?_
            refine w_region ?_
            obtain ⟨a, rfl⟩ : ∃ a : Nat, kd = (a : Int) := ⟨kd.toNat, by omega⟩
            have hal : a < l.length := by omega
            have haf : a < fs.length := by omega
            have hla := hlt a haf
            obtain ⟨loc3, off3, cap3, ska, hsl3, hra, hKa⟩ := hL.get hal
            simp only [AV.sl.injEq] at hsl3
            rw [← hsl3.1, ← hsl3.2.1] at hra
            obtain ⟨locf, offf, capf, rfl, hrf⟩ := hF.get haf
            refine o_rd (r_loadN (cs := [.int .i64 (l[i].k), .int .i64 (l[i].at_), .sl loc2 (off2) (l[i].ks.length) cap2, .str (l[i].nm), .int .i64 (l[i].n)]) Ty.agg24 Ty.csz24 (by simp only [ev, envOf, val_set, ofValue, ofCell, ↓reduceIte, Nat.reduceEqDiff, v0, v1, v2, v6, v7, v11, v12] <;> rfl) (read_mt A2 (Nat.le_of_ble_eq_true rfl))) rfl rfl ?_
            refine o_rd (r_move (by simp only [ev, envOf, val_set, ofValue, ofCell, ↓reduceIte, Nat.reduceEqDiff, v0, v1, v2, v6, v7, v11, v12] <;> rfl)) rfl rfl ?_
            refine o_cl rfl rfl (by simp only [evs, ev, envOf, val_set, ofValue, ofCell, ↓reduceIte, Nat.reduceEqDiff, v0, v1, v2, v6, v7, v11, v12] <;> rfl) rfl (wants_fin ho W6 l[i] _ (((k1 : Nat) : Int)) (hK.ext E6)) rfl rfl ?_; rintro _ H10 ⟨rfl, X10⟩
            have W10 := X10.wf; have E10 := E6.trans X10
            have A2 := X10.keep _ _ A2
            have n10 := X10.n
            refine o_rd (r_move (by simp only [ev, envOf, val_set, ofValue, ofCell, ↓reduceIte, Nat.reduceEqDiff, v0, v1, v2, v6, v7, v11, v12] <;> rfl)) rfl rfl ?_
            refine o_rd (r_extract (by simp only [ev, envOf, val_set, ofValue, ofCell, ↓reduceIte, Nat.reduceEqDiff, v0, v1, v2, v6, v7, v11, v12] <;> rfl) rfl) rfl rfl ?_
            refine o_rd (r_extract (by simp only [ev, envOf, val_set, ofValue, ofCell, ↓reduceIte, Nat.reduceEqDiff, v0, v1, v2, v6, v7, v11, v12] <;> rfl) rfl) rfl rfl ?_
            refine o_rd (r_extract (by simp only [ev, envOf, val_set, ofValue, ofCell, ↓reduceIte, Nat.reduceEqDiff, v0, v1, v2, v6, v7, v11, v12] <;> rfl) rfl) rfl rfl ?_
            refine o_rd (r_assign (by simp only [ev, envOf, val_set, ofValue, ofCell, ↓reduceIte, Nat.reduceEqDiff, v0, v1, v2, v6, v7, v11, v12] <;> rfl)) rfl rfl ?_
            refine o_rd (r_assign (by simp only [ev, envOf, val_set, ofValue, ofCell, ↓reduceIte, Nat.reduceEqDiff, v0, v1, v2, v6, v7, v11, v12] <;> rfl)) rfl rfl ?_
            refine o_rd (r_assign (by simp only [ev, envOf, val_set, ofValue, ofCell, ↓reduceIte, Nat.reduceEqDiff, v0, v1, v2, v6, v7, v11, v12] <;> rfl)) rfl rfl ?_
            refine o_nil ?_
            refine w_seq ?_
            refine w_seq ?_
            refine w_region ?_
            refine o_rd (r_move (by simp only [ev, envOf, val_set, ofValue, ofCell, ↓reduceIte, Nat.reduceEqDiff, v0, v1, v2, v6, v7, v11, v12] <;> rfl)) rfl rfl ?_
            refine o_rd (r_move (by simp only [ev, envOf, val_set, ofValue, ofCell, ↓reduceIte, Nat.reduceEqDiff, v0, v1, v2, v6, v7, v11, v12] <;> rfl)) rfl rfl ?_
            refine o_rd (r_indexAddr Tryd.underlying28 Ty.csz24 (by simp only [ev, envOf, val_set, ofValue, ofCell, ↓reduceIte, Nat.reduceEqDiff, v0, v1, v2, v6, v7, v11, v12] <;> rfl) (by simp only [ev, envOf, val_set, ofValue, ofCell, ↓reduceIte, Nat.reduceEqDiff, v0, v1, v2, v6, v7, v11, v12] <;> rfl) hal) rfl rfl ?_
            refine o_rd (r_loadN Ty.agg24 Ty.csz24 (by simp only [ev, envOf, val_set, ofValue, ofCell, ↓reduceIte, Nat.reduceEqDiff, v0, v1, v2, v6, v7, v11, v12] <;> rfl) (Ext.read (H := H0) (by assumption) hra)) rfl rfl ?_
            refine o_rd (r_move (by simp only [ev, envOf, val_set, ofValue, ofCell, ↓reduceIte, Nat.reduceEqDiff, v0, v1, v2, v6, v7, v11, v12] <;> rfl)) rfl rfl ?_
            refine o_cl rfl rfl (by simp only [evs, ev, envOf, val_set, ofValue, ofCell, ↓reduceIte, Nat.reduceEqDiff, v0, v1, v2, v6, v7, v11, v12] <;> rfl) rfl (is_fin ho W10 l[a] ska (wantsF l[i].k l[i].n (((k1 : Nat) : Int)) l[i].ks.length).1) rfl rfl ?_; rintro _ H11 ⟨rfl, X11⟩
            have W11 := X11.wf; have E11 := E10.trans X11
            have A2 := X11.keep _ _ A2
            have n11 := X11.n
            refine o_rd (r_not (by simp only [ev, envOf, val_set, ofValue, ofCell, ↓reduceIte, Nat.reduceEqDiff, v0, v1, v2, v6, v7, v11, v12] <;> rfl)) rfl rfl ?_
            refine o_rd (r_move (by simp only [ev, envOf, val_set, ofValue, ofCell, ↓reduceIte, Nat.reduceEqDiff, v0, v1, v2, v6, v7, v11, v12] <;> rfl)) rfl rfl ?_
            cases hg12 : (!(decide (isP l[a].k (wantsF l[i].k l[i].n (((k1 : Nat) : Int)) l[i].ks.length).1)) : Bool)
            · have hg12 := dec_t (not_f hg12)
              refine o_sk rfl ((wanted_of (b := false) rfl rfl rfl (by simp only [val_set, ↓reduceIte, Nat.reduceEqDiff, v0, v1, v2, v6, v7, v11, v12] <;> rfl)).trans rfl) ?_
              refine o_sk rfl ((wanted_of (b := false) rfl rfl rfl (by simp only [val_set, ↓reduceIte, Nat.reduceEqDiff, v0, v1, v2, v6, v7, v11, v12] <;> rfl)).trans rfl) ?_
              refine o_sk rfl ((wanted_of (b := false) rfl rfl rfl (by simp only [val_set, ↓reduceIte, Nat.reduceEqDiff, v0, v1, v2, v6, v7, v11, v12] <;> rfl)).trans rfl) ?_
              refine o_sk rfl ((wanted_of (b := false) rfl rfl rfl (by simp only [val_set, ↓reduceIte, Nat.reduceEqDiff, v0, v1, v2, v6, v7, v11, v12] <;> rfl)).trans rfl) ?_
              refine o_sk rfl (wanted_no rfl rfl rfl (by simp only [val_set, ↓reduceIte, Nat.reduceEqDiff, v0, v1, v2, v6, v7, v11, v12] <;> rfl)) ?_
              refine o_sk rfl (wanted_no rfl rfl rfl (by simp only [val_set, ↓reduceIte, Nat.reduceEqDiff, v0, v1, v2, v6, v7, v11, v12] <;> rfl)) ?_
              refine o_sk rfl ((wanted_of (b := false) rfl rfl rfl (by simp only [val_set, ↓reduceIte, Nat.reduceEqDiff, v0, v1, v2, v6, v7, v11, v12] <;> rfl)).trans rfl) ?_
              refine o_sk rfl ((wanted_of (b := false) rfl rfl rfl (by simp only [val_set, ↓reduceIte, Nat.reduceEqDiff, v0, v1, v2, v6, v7, v11, v12] <;> rfl)).trans rfl) ?_
              refine o_sk rfl (wanted_no rfl rfl rfl (by simp only [val_set, ↓reduceIte, Nat.reduceEqDiff, v0, v1, v2, v6, v7, v11, v12] <;> rfl)) ?_
              refine o_sk rfl (wanted_no rfl rfl rfl (by simp only [val_set, ↓reduceIte, Nat.reduceEqDiff, v0, v1, v2, v6, v7, v11, v12] <;> rfl)) ?_
              refine o_sk rfl (wanted_no rfl rfl rfl (by simp only [val_set, ↓reduceIte, Nat.reduceEqDiff, v0, v1, v2, v6, v7, v11, v12] <;> rfl)) ?_
              refine o_sk rfl (wanted_no rfl rfl rfl (by simp only [val_set, ↓reduceIte, Nat.reduceEqDiff, v0, v1, v2, v6, v7, v11, v12] <;> rfl)) ?_
              refine o_sk rfl (wanted_no rfl rfl rfl (by simp only [val_set, ↓reduceIte, Nat.reduceEqDiff, v0, v1, v2, v6, v7, v11, v12] <;> rfl)) ?_
              refine o_sk rfl (wanted_no rfl rfl rfl (by simp only [val_set, ↓reduceIte, Nat.reduceEqDiff, v0, v1, v2, v6, v7, v11, v12] <;> rfl)) ?_
              refine o_sk rfl ((wanted_of (b := false) rfl rfl rfl (by simp only [val_set, ↓reduceIte, Nat.reduceEqDiff, v0, v1, v2, v6, v7, v11, v12] <;> rfl)).trans rfl) ?_
              refine o_sk rfl ((wanted_of (b := false) rfl rfl rfl (by simp only [val_set, ↓reduceIte, Nat.reduceEqDiff, v0, v1, v2, v6, v7, v11, v12] <;> rfl)).trans rfl) ?_
              refine o_rd (r_pick (t := false) (by simp only [ev, envOf, val_set, ofValue, ofCell, ↓reduceIte, Nat.reduceEqDiff, v0, v1, v2, v6, v7, v11, v12] <;> rfl) (fun h => by cases h) (fun _ => (by simp only [ev, envOf, val_set, ofValue, ofCell, ↓reduceIte, Nat.reduceEqDiff, v0, v1, v2, v6, v7, v11, v12] <;> rfl))) rfl rfl ?_
              refine o_nil ?_
              refine w_cond (t := false) (by simp only [ev, envOf, val_set, ofValue, ofCell, ↓reduceIte, Nat.reduceEqDiff, v0, v1, v2, v6, v7, v11, v12] <;> rfl) (fun h => by cases h) (fun _ => ?_)
              refine w_skip ?_
              refine w_region ?_
              refine o_rd (r_move (by simp only [ev, envOf, val_set, ofValue, ofCell, ↓reduceIte, Nat.reduceEqDiff, v0, v1, v2, v6, v7, v11, v12] <;> rfl)) rfl rfl ?_
              refine o_rd (r_move (by simp only [ev, envOf, val_set, ofValue, ofCell, ↓reduceIte, Nat.reduceEqDiff, v0, v1, v2, v6, v7, v11, v12] <;> rfl)) rfl rfl ?_
              refine o_rd (r_indexAddr Tryd.underlying22 Ty.csz3 (by simp only [ev, envOf, val_set, ofValue, ofCell, ↓reduceIte, Nat.reduceEqDiff, v0, v1, v2, v6, v7, v11, v12] <;> rfl) (by simp only [ev, envOf, val_set, ofValue, ofCell, ↓reduceIte, Nat.reduceEqDiff, v0, v1, v2, v6, v7, v11, v12] <;> rfl) haf) rfl rfl ?_
              refine o_rd (r_load1 Ty.agg3 (by simp only [ev, envOf, val_set, ofValue, ofCell, ↓reduceIte, Nat.reduceEqDiff, v0, v1, v2, v6, v7, v11, v12] <;> rfl) (Ext.read (H := H0) (by assumption) hrf)) rfl rfl ?_
              refine o_rd (r_subE (a := (fs[a]'haf)) (b := 1) (c := (fs[a]'haf) - 1) (by simp only [ev, envOf, val_set, ofValue, ofCell, ↓reduceIte, Nat.reduceEqDiff, v0, v1, v2, v6, v7, v11, v12] <;> rfl) (by simp only [ev, envOf, val_set, ofValue, ofCell, ↓reduceIte, Nat.reduceEqDiff, v0, v1, v2, v6, v7, v11, v12] <;> rfl) (by omega) (by omega) (by omega)) rfl rfl ?_
              refine o_rd (r_assign (by simp only [ev, envOf, val_set, ofValue, ofCell, ↓reduceIte, Nat.reduceEqDiff, v0, v1, v2, v6, v7, v11, v12] <;> rfl)) rfl rfl ?_
              refine o_nil ?_
              refine w_region ?_
              refine o_rd (r_move (by simp only [ev, envOf, val_set, ofValue, ofCell, ↓reduceIte, Nat.reduceEqDiff, v0, v1, v2, v6, v7, v11, v12] <;> rfl)) rfl rfl ?_
              refine o_rd (r_subE (a := ((k1 : Nat) : Int)) (b := 1) (c := ((k1 : Nat) : Int) - 1) (by simp only [ev, envOf, val_set, ofValue, ofCell, ↓reduceIte, Nat.reduceEqDiff, v0, v1, v2, v6, v7, v11, v12] <;> rfl) (by simp only [ev, envOf, val_set, ofValue, ofCell, ↓reduceIte, Nat.reduceEqDiff, v0, v1, v2, v6, v7, v11, v12] <;> rfl) (by omega) (by omega) (by omega)) rfl rfl ?_
              refine o_rd (r_assign (by simp only [ev, envOf, val_set, ofValue, ofCell, ↓reduceIte, Nat.reduceEqDiff, v0, v1, v2, v6, v7, v11, v12] <;> rfl)) rfl rfl ?_
              refine o_nil ?_
              exact ⟨k1, (by omega), _, H11, k1, ((k1 : Nat) : Int) - 1, (fs[a]'haf) - 1, rfl, (by simp only [val_set, ↓reduceIte, Nat.reduceEqDiff, v0, v1, v2, v6, v7, v11, v12] <;> rfl), (by simp only [val_set, ↓reduceIte, Nat.reduceEqDiff, v0, v1, v2, v6, v7, v11, v12] <;> rfl), (by simp only [val_set, ↓reduceIte, Nat.reduceEqDiff, v0, v1, v2, v6, v7, v11, v12] <;> rfl), (by simp only [val_set, ↓reduceIte, Nat.reduceEqDiff, v0, v1, v2, v6, v7, v11, v12] <;> rfl), (by simp only [val_set, ↓reduceIte, Nat.reduceEqDiff, v0, v1, v2, v6, v7, v11, v12] <;> rfl), (by simp only [val_set, ↓reduceIte, Nat.reduceEqDiff, v0, v1, v2, v6, v7, v11, v12] <;> rfl), (by simp only [val_set, ↓reduceIte, Nat.reduceEqDiff, v0, v1, v2, v6, v7, v11, v12] <;> rfl), W11, E11, A2, (by omega), rfl, rfl, (by omega), (by rw [hgo, kidsGo_fit hk1 hkd (by omega) hal (by unfold fitsP; first | exact Or.inl (by assumption) | exact Or.inl (of_decide_eq_true (by assumption)) | exact Or.inr ⟨by omega, by omega, by omega⟩) haf])⟩
            · have hg12 := dec_f (not_t hg12)
              refine o_rd (r_fieldAddr Ty.fo24_0 (by simp only [ev, envOf, val_set, ofValue, ofCell, ↓reduceIte, Nat.reduceEqDiff, v0, v1, v2, v6, v7, v11, v12] <;> rfl)) rfl ((wanted_of (b := true) rfl rfl rfl (by simp only [val_set, ↓reduceIte, Nat.reduceEqDiff, v0, v1, v2, v6, v7, v11, v12] <;> rfl)).trans rfl) ?_
              refine o_rd (r_load1 (v := .int .i64 (l[i].k)) Ty.agg3 (by simp only [ev, envOf, val_set, ofValue, ofCell, ↓reduceIte, Nat.reduceEqDiff, v0, v1, v2, v6, v7, v11, v12] <;> rfl) (read_mt A2 (Nat.le_of_ble_eq_true rfl))) rfl ((wanted_of (b := true) rfl rfl rfl (by simp only [val_set, ↓reduceIte, Nat.reduceEqDiff, v0, v1, v2, v6, v7, v11, v12] <;> rfl)).trans rfl) ?_
              refine o_rd (r_eq (a := l[i].k) (b := 36) (by simp only [ev, envOf, val_set, ofValue, ofCell, ↓reduceIte, Nat.reduceEqDiff, v0, v1, v2, v6, v7, v11, v12] <;> rfl) (by simp only [ev, envOf, val_set, ofValue, ofCell, ↓reduceIte, Nat.reduceEqDiff, v0, v1, v2, v6, v7, v11, v12] <;> rfl)) rfl ((wanted_of (b := true) rfl rfl rfl (by simp only [val_set, ↓reduceIte, Nat.reduceEqDiff, v0, v1, v2, v6, v7, v11, v12] <;> rfl)).trans rfl) ?_
              refine o_rd (r_move (by simp only [ev, envOf, val_set, ofValue, ofCell, ↓reduceIte, Nat.reduceEqDiff, v0, v1, v2, v6, v7, v11, v12] <;> rfl)) rfl ((wanted_of (b := true) rfl rfl rfl (by simp only [val_set, ↓reduceIte, Nat.reduceEqDiff, v0, v1, v2, v6, v7, v11, v12] <;> rfl)).trans rfl) ?_
              cases hg13 : (decide (l[i].k = 36) : Bool)
              · have hg13 := dec_f hg13
                refine o_sk rfl ((wanted_of (b := false) rfl rfl rfl (by simp only [val_set, ↓reduceIte, Nat.reduceEqDiff, v0, v1, v2, v6, v7, v11, v12] <;> rfl)).trans rfl) ?_
                refine o_sk rfl ((wanted_of (b := false) rfl rfl rfl (by simp only [val_set, ↓reduceIte, Nat.reduceEqDiff, v0, v1, v2, v6, v7, v11, v12] <;> rfl)).trans rfl) ?_
                refine o_rd (r_pick (t := false) (by simp only [ev, envOf, val_set, ofValue, ofCell, ↓reduceIte, Nat.reduceEqDiff, v0, v1, v2, v6, v7, v11, v12] <;> rfl) (fun h => by cases h) (fun _ => (by simp only [ev, envOf, val_set, ofValue, ofCell, ↓reduceIte, Nat.reduceEqDiff, v0, v1, v2, v6, v7, v11, v12] <;> rfl))) rfl ((wanted_of (b := true) rfl rfl rfl (by simp only [val_set, ↓reduceIte, Nat.reduceEqDiff, v0, v1, v2, v6, v7, v11, v12] <;> rfl)).trans rfl) ?_
                refine o_rd (r_move (by simp only [ev, envOf, val_set, ofValue, ofCell, ↓reduceIte, Nat.reduceEqDiff, v0, v1, v2, v6, v7, v11, v12] <;> rfl)) rfl ((wanted_of (b := true) rfl rfl rfl (by simp only [val_set, ↓reduceIte, Nat.reduceEqDiff, v0, v1, v2, v6, v7, v11, v12] <;> rfl)).trans rfl) ?_
                refine o_sk rfl ((wanted_of (b := false) rfl rfl rfl (by simp only [val_set, ↓reduceIte, Nat.reduceEqDiff, v0, v1, v2, v6, v7, v11, v12] <;> rfl)).trans rfl) ?_
                refine o_sk rfl ((wanted_of (b := false) rfl rfl rfl (by simp only [val_set, ↓reduceIte, Nat.reduceEqDiff, v0, v1, v2, v6, v7, v11, v12] <;> rfl)).trans rfl) ?_
                refine o_sk rfl ((wanted_of (b := false) rfl rfl rfl (by simp only [val_set, ↓reduceIte, Nat.reduceEqDiff, v0, v1, v2, v6, v7, v11, v12] <;> rfl)).trans rfl) ?_
                refine o_sk rfl ((wanted_of (b := false) rfl rfl rfl (by simp only [val_set, ↓reduceIte, Nat.reduceEqDiff, v0, v1, v2, v6, v7, v11, v12] <;> rfl)).trans rfl) ?_
                refine o_sk rfl ((wanted_of (b := false) rfl rfl rfl (by simp only [val_set, ↓reduceIte, Nat.reduceEqDiff, v0, v1, v2, v6, v7, v11, v12] <;> rfl)).trans rfl) ?_
                refine o_sk rfl ((wanted_of (b := false) rfl rfl rfl (by simp only [val_set, ↓reduceIte, Nat.reduceEqDiff, v0, v1, v2, v6, v7, v11, v12] <;> rfl)).trans rfl) ?_
                refine o_rd (r_pick (t := false) (by simp only [ev, envOf, val_set, ofValue, ofCell, ↓reduceIte, Nat.reduceEqDiff, v0, v1, v2, v6, v7, v11, v12] <;> rfl) (fun h => by cases h) (fun _ => (by simp only [ev, envOf, val_set, ofValue, ofCell, ↓reduceIte, Nat.reduceEqDiff, v0, v1, v2, v6, v7, v11, v12] <;> rfl))) rfl ((wanted_of (b := true) rfl rfl rfl (by simp only [val_set, ↓reduceIte, Nat.reduceEqDiff, v0, v1, v2, v6, v7, v11, v12] <;> rfl)).trans rfl) ?_
                refine o_rd (r_not (by simp only [ev, envOf, val_set, ofValue, ofCell, ↓reduceIte, Nat.reduceEqDiff, v0, v1, v2, v6, v7, v11, v12] <;> rfl)) rfl ((wanted_of (b := true) rfl rfl rfl (by simp only [val_set, ↓reduceIte, Nat.reduceEqDiff, v0, v1, v2, v6, v7, v11, v12] <;> rfl)).trans rfl) ?_
                refine o_rd (r_pick (t := true) (by simp only [ev, envOf, val_set, ofValue, ofCell, ↓reduceIte, Nat.reduceEqDiff, v0, v1, v2, v6, v7, v11, v12] <;> rfl) (fun _ => (by simp only [ev, envOf, val_set, ofValue, ofCell, ↓reduceIte, Nat.reduceEqDiff, v0, v1, v2, v6, v7, v11, v12] <;> rfl)) (fun h => by cases h)) rfl rfl ?_
                refine o_nil ?_
                refine w_cond (t := true) (by simp only [ev, envOf, val_set, ofValue, ofCell, ↓reduceIte, Nat.reduceEqDiff, v0, v1, v2, v6, v7, v11, v12] <;> rfl) (fun _ => ?_) (fun h => by cases h)
                refine w_seq ?_
                refine w_region ?_
                refine o_rd (r_assign (by simp only [ev, envOf, val_set, ofValue, ofCell, ↓reduceIte, Nat.reduceEqDiff, v0, v1, v2, v6, v7, v11, v12] <;> rfl)) rfl rfl ?_
                refine o_nil ?_
                refine w_ret ⟨.inr rfl, rfl, .bool (false), (show resultA Tryd.prog [.tmp 6] _ = _ by simp only [resultA, resultsA, envOf, val_set, ↓reduceIte, Nat.reduceEqDiff, Option.map_some, v0, v1, v2, v6, v7, v11, v12] <;> rfl), ?_⟩
                try dsimp only
                exact ⟨congrArg AV.bool (by first | (rw [kidsB_at hi, if_pos (by omega)]) | (rw [hgo, kidsGo_bad hk1 (by omega)]) | (rw [hgo, kidsGo_unfit hk1 hkd (by omega) hal (by unfold fitsP; intro hq; rcases hq with hq | hq; exact absurd hq (by assumption); omega)])), E11⟩
              · have hg13 := dec_t hg13
                refine o_rd (r_move (by simp only [ev, envOf, val_set, ofValue, ofCell, ↓reduceIte, Nat.reduceEqDiff, v0, v1, v2, v6, v7, v11, v12] <;> rfl)) rfl ((wanted_of (b := true) rfl rfl rfl (by simp only [val_set, ↓reduceIte, Nat.reduceEqDiff, v0, v1, v2, v6, v7, v11, v12] <;> rfl)).trans rfl) ?_
                refine o_rd (r_eq (a := ((k1 : Nat) : Int)) (b := 2) (by simp only [ev, envOf, val_set, ofValue, ofCell, ↓reduceIte, Nat.reduceEqDiff, v0, v1, v2, v6, v7, v11, v12] <;> rfl) (by simp only [ev, envOf, val_set, ofValue, ofCell, ↓reduceIte, Nat.reduceEqDiff, v0, v1, v2, v6, v7, v11, v12] <;> rfl)) rfl ((wanted_of (b := true) rfl rfl rfl (by simp only [val_set, ↓reduceIte, Nat.reduceEqDiff, v0, v1, v2, v6, v7, v11, v12] <;> rfl)).trans rfl) ?_
                refine o_rd (r_pick (t := true) (by simp only [ev, envOf, val_set, ofValue, ofCell, ↓reduceIte, Nat.reduceEqDiff, v0, v1, v2, v6, v7, v11, v12] <;> rfl) (fun _ => (by simp only [ev, envOf, val_set, ofValue, ofCell, ↓reduceIte, Nat.reduceEqDiff, v0, v1, v2, v6, v7, v11, v12] <;> rfl)) (fun h => by cases h)) rfl ((wanted_of (b := true) rfl rfl rfl (by simp only [val_set, ↓reduceIte, Nat.reduceEqDiff, v0, v1, v2, v6, v7, v11, v12] <;> rfl)).trans rfl) ?_
                refine o_rd (r_move (by simp only [ev, envOf, val_set, ofValue, ofCell, ↓reduceIte, Nat.reduceEqDiff, v0, v1, v2, v6, v7, v11, v12] <;> rfl)) rfl ((wanted_of (b := true) rfl rfl rfl (by simp only [val_set, ↓reduceIte, Nat.reduceEqDiff, v0, v1, v2, v6, v7, v11, v12] <;> rfl)).trans rfl) ?_
                cases hg14 : (decide (((k1 : Nat) : Int) = 2) : Bool)
                · have hg14 := dec_f hg14
                  refine o_sk rfl ((wanted_of (b := false) rfl rfl rfl (by simp only [val_set, ↓reduceIte, Nat.reduceEqDiff, v0, v1, v2, v6, v7, v11, v12] <;> rfl)).trans rfl) ?_
                  refine o_sk rfl ((wanted_of (b := false) rfl rfl rfl (by simp only [val_set, ↓reduceIte, Nat.reduceEqDiff, v0, v1, v2, v6, v7, v11, v12] <;> rfl)).trans rfl) ?_
                  refine o_sk rfl ((wanted_of (b := false) rfl rfl rfl (by simp only [val_set, ↓reduceIte, Nat.reduceEqDiff, v0, v1, v2, v6, v7, v11, v12] <;> rfl)).trans rfl) ?_
                  refine o_sk rfl ((wanted_of (b := false) rfl rfl rfl (by simp only [val_set, ↓reduceIte, Nat.reduceEqDiff, v0, v1, v2, v6, v7, v11, v12] <;> rfl)).trans rfl) ?_
                  refine o_sk rfl ((wanted_of (b := false) rfl rfl rfl (by simp only [val_set, ↓reduceIte, Nat.reduceEqDiff, v0, v1, v2, v6, v7, v11, v12] <;> rfl)).trans rfl) ?_
                  refine o_sk rfl ((wanted_of (b := false) rfl rfl rfl (by simp only [val_set, ↓reduceIte, Nat.reduceEqDiff, v0, v1, v2, v6, v7, v11, v12] <;> rfl)).trans rfl) ?_
                  refine o_rd (r_pick (t := false) (by simp only [ev, envOf, val_set, ofValue, ofCell, ↓reduceIte, Nat.reduceEqDiff, v0, v1, v2, v6, v7, v11, v12] <;> rfl) (fun h => by cases h) (fun _ => (by simp only [ev, envOf, val_set, ofValue, ofCell, ↓reduceIte, Nat.reduceEqDiff, v0, v1, v2, v6, v7, v11, v12] <;> rfl))) rfl ((wanted_of (b := true) rfl rfl rfl (by simp only [val_set, ↓reduceIte, Nat.reduceEqDiff, v0, v1, v2, v6, v7, v11, v12] <;> rfl)).trans rfl) ?_
                  refine o_rd (r_not (by simp only [ev, envOf, val_set, ofValue, ofCell, ↓reduceIte, Nat.reduceEqDiff, v0, v1, v2, v6, v7, v11, v12] <;> rfl)) rfl ((wanted_of (b := true) rfl rfl rfl (by simp only [val_set, ↓reduceIte, Nat.reduceEqDiff, v0, v1, v2, v6, v7, v11, v12] <;> rfl)).trans rfl) ?_
                  refine o_rd (r_pick (t := true) (by simp only [ev, envOf, val_set, ofValue, ofCell, ↓reduceIte, Nat.reduceEqDiff, v0, v1, v2, v6, v7, v11, v12] <;> rfl) (fun _ => (by simp only [ev, envOf, val_set, ofValue, ofCell, ↓reduceIte, Nat.reduceEqDiff, v0, v1, v2, v6, v7, v11, v12] <;> rfl)) (fun h => by cases h)) rfl rfl ?_
                  refine o_nil ?_
                  refine w_cond (t := true) (by simp only [ev, envOf, val_set, ofValue, ofCell, ↓reduceIte, Nat.reduceEqDiff, v0, v1, v2, v6, v7, v11, v12] <;> rfl) (fun _ => ?_) (fun h => by cases h)
                  refine w_seq ?_
                  refine w_region ?_
                  refine o_rd (r_assign (by simp only [ev, envOf, val_set, ofValue, ofCell, ↓reduceIte, Nat.reduceEqDiff, v0, v1, v2, v6, v7, v11, v12] <;> rfl)) rfl rfl ?_
                  refine o_nil ?_
                  refine w_ret ⟨.inr rfl, rfl, .bool (false), (show resultA Tryd.prog [.tmp 6] _ = _ by simp only [resultA, resultsA, envOf, val_set, ↓reduceIte, Nat.reduceEqDiff, Option.map_some, v0, v1, v2, v6, v7, v11, v12] <;> rfl), ?_⟩
                  try dsimp only
                  exact ⟨congrArg AV.bool (by first | (rw [kidsB_at hi, if_pos (by omega)]) | (rw [hgo, kidsGo_bad hk1 (by omega)]) | (rw [hgo, kidsGo_unfit hk1 hkd (by omega) hal (by unfold fitsP; intro hq; rcases hq with hq | hq; exact absurd hq (by assumption); omega)])), E11⟩
                · have hg14 := dec_t hg14
                  refine o_rd (r_move (by simp only [ev, envOf, val_set, ofValue, ofCell, ↓reduceIte, Nat.reduceEqDiff, v0, v1, v2, v6, v7, v11, v12] <;> rfl)) rfl ((wanted_of (b := true) rfl rfl rfl (by simp only [val_set, ↓reduceIte, Nat.reduceEqDiff, v0, v1, v2, v6, v7, v11, v12] <;> rfl)).trans rfl) ?_
                  refine o_rd (r_move (by simp only [ev, envOf, val_set, ofValue, ofCell, ↓reduceIte, Nat.reduceEqDiff, v0, v1, v2, v6, v7, v11, v12] <;> rfl)) rfl ((wanted_of (b := true) rfl rfl rfl (by simp only [val_set, ↓reduceIte, Nat.reduceEqDiff, v0, v1, v2, v6, v7, v11, v12] <;> rfl)).trans rfl) ?_
                  refine o_rd (r_indexAddr Tryd.underlying28 Ty.csz24 (by simp only [ev, envOf, val_set, ofValue, ofCell, ↓reduceIte, Nat.reduceEqDiff, v0, v1, v2, v6, v7, v11, v12] <;> rfl) (by simp only [ev, envOf, val_set, ofValue, ofCell, ↓reduceIte, Nat.reduceEqDiff, v0, v1, v2, v6, v7, v11, v12] <;> rfl) hal) rfl ((wanted_of (b := true) rfl rfl rfl (by simp only [val_set, ↓reduceIte, Nat.reduceEqDiff, v0, v1, v2, v6, v7, v11, v12] <;> rfl)).trans rfl) ?_
                  refine o_rd (r_fieldAddr Ty.fo24_0 (by simp only [ev, envOf, val_set, ofValue, ofCell, ↓reduceIte, Nat.reduceEqDiff, v0, v1, v2, v6, v7, v11, v12] <;> rfl)) rfl ((wanted_of (b := true) rfl rfl rfl (by simp only [val_set, ↓reduceIte, Nat.reduceEqDiff, v0, v1, v2, v6, v7, v11, v12] <;> rfl)).trans rfl) ?_
                  refine o_rd (r_load1 Ty.agg3 (by simp only [ev, envOf, val_set, ofValue, ofCell, ↓reduceIte, Nat.reduceEqDiff, v0, v1, v2, v6, v7, v11, v12] <;> rfl) ((read_part (Ext.read (H := H0) (by assumption) hra) (o := 0) (m := 1) (by decide)).trans rfl)) rfl ((wanted_of (b := true) rfl rfl rfl (by simp only [val_set, ↓reduceIte, Nat.reduceEqDiff, v0, v1, v2, v6, v7, v11, v12] <;> rfl)).trans rfl) ?_
                  refine o_rd (r_eq (a := l[a].k) (b := 36) (by simp only [ev, envOf, val_set, ofValue, ofCell, ↓reduceIte, Nat.reduceEqDiff, v0, v1, v2, v6, v7, v11, v12] <;> rfl) (by simp only [ev, envOf, val_set, ofValue, ofCell, ↓reduceIte, Nat.reduceEqDiff, v0, v1, v2, v6, v7, v11, v12] <;> rfl)) rfl ((wanted_of (b := true) rfl rfl rfl (by simp only [val_set, ↓reduceIte, Nat.reduceEqDiff, v0, v1, v2, v6, v7, v11, v12] <;> rfl)).trans rfl) ?_
                  refine o_rd (r_pick (t := true) (by simp only [ev, envOf, val_set, ofValue, ofCell, ↓reduceIte, Nat.reduceEqDiff, v0, v1, v2, v6, v7, v11, v12] <;> rfl) (fun _ => (by simp only [ev, envOf, val_set, ofValue, ofCell, ↓reduceIte, Nat.reduceEqDiff, v0, v1, v2, v6, v7, v11, v12] <;> rfl)) (fun h => by cases h)) rfl ((wanted_of (b := true) rfl rfl rfl (by simp only [val_set, ↓reduceIte, Nat.reduceEqDiff, v0, v1, v2, v6, v7, v11, v12] <;> rfl)).trans rfl) ?_
                  refine o_rd (r_not (by simp only [ev, envOf, val_set, ofValue, ofCell, ↓reduceIte, Nat.reduceEqDiff, v0, v1, v2, v6, v7, v11, v12] <;> rfl)) rfl ((wanted_of (b := true) rfl rfl rfl (by simp only [val_set, ↓reduceIte, Nat.reduceEqDiff, v0, v1, v2, v6, v7, v11, v12] <;> rfl)).trans rfl) ?_
                  refine o_rd (r_pick (t := true) (by simp only [ev, envOf, val_set, ofValue, ofCell, ↓reduceIte, Nat.reduceEqDiff, v0, v1, v2, v6, v7, v11, v12] <;> rfl) (fun _ => (by simp only [ev, envOf, val_set, ofValue, ofCell, ↓reduceIte, Nat.reduceEqDiff, v0, v1, v2, v6, v7, v11, v12] <;> rfl)) (fun h => by cases h)) rfl rfl ?_
                  refine o_nil ?_
                  refine w_cond (by simp only [ev, envOf, val_set, ofValue, ofCell, ↓reduceIte, Nat.reduceEqDiff, v0, v1, v2, v6, v7, v11, v12] <;> rfl) (fun hB15 => ?_) (fun hB15 => ?_)
                  · have hc15 := dec_f (not_t hB15)
                    refine w_seq ?_
                    refine w_region ?_
                    refine o_rd (r_assign (by simp only [ev, envOf, val_set, ofValue, ofCell, ↓reduceIte, Nat.reduceEqDiff, v0, v1, v2, v6, v7, v11, v12] <;> rfl)) rfl rfl ?_
                    refine o_nil ?_
                    refine w_ret ⟨.inr rfl, rfl, .bool (false), (show resultA Tryd.prog [.tmp 6] _ = _ by simp only [resultA, resultsA, envOf, val_set, ↓reduceIte, Nat.reduceEqDiff, Option.map_some, v0, v1, v2, v6, v7, v11, v12] <;> rfl), ?_⟩
                    try dsimp only
                    exact ⟨congrArg AV.bool (by first | (rw [kidsB_at hi, if_pos (by omega)]) | (rw [hgo, kidsGo_bad hk1 (by omega)]) | (rw [hgo, kidsGo_unfit hk1 hkd (by omega) hal (by unfold fitsP; intro hq; rcases hq with hq | hq; exact absurd hq (by assumption); omega)])), E11⟩
                  · have hc15 := dec_t (not_f hB15)
                    refine w_skip ?_
                    refine w_region ?_
                    refine o_rd (r_move (by simp only [ev, envOf, val_set, ofValue, ofCell, ↓reduceIte, Nat.reduceEqDiff, v0, v1, v2, v6, v7, v11, v12] <;> rfl)) rfl rfl ?_
                    refine o_rd (r_move (by simp only [ev, envOf, val_set, ofValue, ofCell, ↓reduceIte, Nat.reduceEqDiff, v0, v1, v2, v6, v7, v11, v12] <;> rfl)) rfl rfl ?_
                    refine o_rd (r_indexAddr Tryd.underlying22 Ty.csz3 (by simp only [ev, envOf, val_set, ofValue, ofCell, ↓reduceIte, Nat.reduceEqDiff, v0, v1, v2, v6, v7, v11, v12] <;> rfl) (by simp only [ev, envOf, val_set, ofValue, ofCell, ↓reduceIte, Nat.reduceEqDiff, v0, v1, v2, v6, v7, v11, v12] <;> rfl) haf) rfl rfl ?_
                    refine o_rd (r_load1 Ty.agg3 (by simp only [ev, envOf, val_set, ofValue, ofCell, ↓reduceIte, Nat.reduceEqDiff, v0, v1, v2, v6, v7, v11, v12] <;> rfl) (Ext.read (H := H0) (by assumption) hrf)) rfl rfl ?_
                    refine o_rd (r_subE (a := (fs[a]'haf)) (b := 1) (c := (fs[a]'haf) - 1) (by simp only [ev, envOf, val_set, ofValue, ofCell, ↓reduceIte, Nat.reduceEqDiff, v0, v1, v2, v6, v7, v11, v12] <;> rfl) (by simp only [ev, envOf, val_set, ofValue, ofCell, ↓reduceIte, Nat.reduceEqDiff, v0, v1, v2, v6, v7, v11, v12] <;> rfl) (by omega) (by omega) (by omega)) rfl rfl ?_
                    refine o_rd (r_assign (by simp only [ev, envOf, val_set, ofValue, ofCell, ↓reduceIte, Nat.reduceEqDiff, v0, v1, v2, v6, v7, v11, v12] <;> rfl)) rfl rfl ?_
                    refine o_nil ?_
                    refine w_region ?_
                    refine o_rd (r_move (by simp only [ev, envOf, val_set, ofValue, ofCell, ↓reduceIte, Nat.reduceEqDiff, v0, v1, v2, v6, v7, v11, v12] <;> rfl)) rfl rfl ?_
                    refine o_rd (r_subE (a := ((k1 : Nat) : Int)) (b := 1) (c := ((k1 : Nat) : Int) - 1) (by simp only [ev, envOf, val_set, ofValue, ofCell, ↓reduceIte, Nat.reduceEqDiff, v0, v1, v2, v6, v7, v11, v12] <;> rfl) (by simp only [ev, envOf, val_set, ofValue, ofCell, ↓reduceIte, Nat.reduceEqDiff, v0, v1, v2, v6, v7, v11, v12] <;> rfl) (by omega) (by omega) (by omega)) rfl rfl ?_
                    refine o_rd (r_assign (by simp only [ev, envOf, val_set, ofValue, ofCell, ↓reduceIte, Nat.reduceEqDiff, v0, v1, v2, v6, v7, v11, v12] <;> rfl)) rfl rfl ?_
                    refine o_nil ?_
                    exact ⟨k1, (by omega), _, H11, k1, ((k1 : Nat) : Int) - 1, (fs[a]'haf) - 1, rfl, (by simp only [val_set, ↓reduceIte, Nat.reduceEqDiff, v0, v1, v2, v6, v7, v11, v12] <;> rfl), (by simp only [val_set, ↓reduceIte, Nat.reduceEqDiff, v0, v1, v2, v6, v7, v11, v12] <;> rfl), (by simp only [val_set, ↓reduceIte, Nat.reduceEqDiff, v0, v1, v2, v6, v7, v11, v12] <;> rfl), (by simp only [val_set, ↓reduceIte, Nat.reduceEqDiff, v0, v1, v2, v6, v7, v11, v12] <;> rfl), (by simp only [val_set, ↓reduceIte, Nat.reduceEqDiff, v0, v1, v2, v6, v7, v11, v12] <;> rfl), (by simp only [val_set, ↓reduceIte, Nat.reduceEqDiff, v0, v1, v2, v6, v7, v11, v12] <;> rfl), (by simp only [val_set, ↓reduceIte, Nat.reduceEqDiff, v0, v1, v2, v6, v7, v11, v12] <;> rfl), W11, E11, A2, (by omega), rfl, rfl, (by omega), (by rw [hgo, kidsGo_fit hk1 hkd (by omega) hal (by unfold fitsP; first | exact Or.inl (by assumption) | exact Or.inl (of_decide_eq_true (by assumption)) | exact Or.inr ⟨by omega, by omega, by omega⟩) haf])⟩
        · have hg8 := dec_t hg8
          refine o_sk rfl ((wanted_of (b := true) rfl rfl rfl (by simp only [val_set, ↓reduceIte, Nat.reduceEqDiff, v0, v1, v2, v6, v7, v11, v12] <;> rfl)).trans rfl) ?_
          refine o_sk rfl ((wanted_of (b := true) rfl rfl rfl (by simp only [val_set, ↓reduceIte, Nat.reduceEqDiff, v0, v1, v2, v6, v7, v11, v12] <;> rfl)).trans rfl) ?_
          refine o_sk rfl ((wanted_of (b := true) rfl rfl rfl (by simp only [val_set, ↓reduceIte, Nat.reduceEqDiff, v0, v1, v2, v6, v7, v11, v12] <;> rfl)).trans rfl) ?_
          refine o_rd (r_pick (t := true) (by simp only [ev, envOf, val_set, ofValue, ofCell, ↓reduceIte, Nat.reduceEqDiff, v0, v1, v2, v6, v7, v11, v12] <;> rfl) (fun _ => (by simp only [ev, envOf, val_set, ofValue, ofCell, ↓reduceIte, Nat.reduceEqDiff, v0, v1, v2, v6, v7, v11, v12] <;> rfl)) (fun h => by cases h)) rfl rfl ?_
          refine o_nil ?_
          refine w_cond (t := true) (by simp only [ev, envOf, val_set, ofValue, ofCell, ↓reduceIte, Nat.reduceEqDiff, v0, v1, v2, v6, v7, v11, v12] <;> rfl) (fun _ => ?_) (fun h => by cases h)
          refine w_seq ?_
          refine w_region ?_
          refine o_rd (r_assign (by simp only [ev, envOf, val_set, ofValue, ofCell, ↓reduceIte, Nat.reduceEqDiff, v0, v1, v2, v6, v7, v11, v12] <;> rfl)) rfl rfl ?_
          refine o_nil ?_
          refine w_ret ⟨.inr rfl, rfl, .bool (false), (show resultA Tryd.prog [.tmp 6] _ = _ by simp only [resultA, resultsA, envOf, val_set, ↓reduceIte, Nat.reduceEqDiff, Option.map_some, v0, v1, v2, v6, v7, v11, v12] <;> rfl), ?_⟩
          try dsimp only
          exact ⟨congrArg AV.bool (by first | (rw [kidsB_at hi, if_pos (by omega)]) | (rw [hgo, kidsGo_bad hk1 (by omega)]) | (rw [hgo, kidsGo_unfit hk1 hkd (by omega) hal (by unfold fitsP; intro hq; rcases hq with hq | hq; exact absurd hq (by assumption); omega)])), E6⟩
      · have hc7 := dec_f hB7
        first | refine w_exit (blk_exit ?_) | refine w_exit (show (0 = 0 → _) ∧ (0 ≠ 0 → _) from ⟨fun _ => ?_, fun c => absurd rfl c⟩)
        refine w_seq ?_
        refine w_region ?_
        refine o_rd (r_assign (by simp only [ev, envOf, val_set, ofValue, ofCell, ↓reduceIte, Nat.reduceEqDiff, v0, v1, v2, v6, v7, v11, v12] <;> rfl)) rfl rfl ?_
        refine o_nil ?_
        refine w_ret ⟨.inr rfl, rfl, .bool (true), (show resultA Tryd.prog [.tmp 6] _ = _ by simp only [resultA, resultsA, envOf, val_set, ↓reduceIte, Nat.reduceEqDiff, Option.map_some, v0, v1, v2, v6, v7, v11, v12] <;> rfl), ?_⟩
        try dsimp only
        exact ⟨congrArg AV.bool (by rw [hgo, show k = 0 by omega]; rfl), E6⟩
  · have hg4 := dec_t hg4
    refine o_sk rfl ((wanted_of (b := true) rfl rfl rfl (by simp only [val_set, ↓reduceIte, Nat.reduceEqDiff] <;> rfl)).trans rfl) ?_
    refine o_sk rfl ((wanted_of (b := true) rfl rfl rfl (by simp only [val_set, ↓reduceIte, Nat.reduceEqDiff] <;> rfl)).trans rfl) ?_
    refine o_sk rfl ((wanted_of (b := true) rfl rfl rfl (by simp only [val_set, ↓reduceIte, Nat.reduceEqDiff] <;> rfl)).trans rfl) ?_
    refine o_sk rfl ((wanted_of (b := true) rfl rfl rfl (by simp only [val_set, ↓reduceIte, Nat.reduceEqDiff] <;> rfl)).trans rfl) ?_
    refine o_sk rfl ((wanted_of (b := true) rfl rfl rfl (by simp only [val_set, ↓reduceIte, Nat.reduceEqDiff] <;> rfl)).trans rfl) ?_
    refine o_rd (r_pick (t := true) (by simp only [ev, envOf, val_set, ofValue, ofCell, ↓reduceIte, Nat.reduceEqDiff] <;> rfl) (fun _ => (by simp only [ev, envOf, val_set, ofValue, ofCell, ↓reduceIte, Nat.reduceEqDiff] <;> rfl)) (fun h => by cases h)) rfl rfl ?_
    refine o_nil ?_
    refine w_cond (t := true) (by simp only [ev, envOf, val_set, ofValue, ofCell, ↓reduceIte, Nat.reduceEqDiff] <;> rfl) (fun _ => ?_) (fun h => by cases h)
    refine w_seq ?_
    refine w_region ?_
    refine o_rd (r_assign (by simp only [ev, envOf, val_set, ofValue, ofCell, ↓reduceIte, Nat.reduceEqDiff] <;> rfl)) rfl rfl ?_
    refine o_nil ?_
    refine w_ret ⟨.inr rfl, rfl, .bool (false), (show resultA Tryd.prog [.tmp 6] _ = _ by simp only [resultA, resultsA, envOf, val_set, ↓reduceIte, Nat.reduceEqDiff, Option.map_some] <;> rfl), ?_⟩
    try dsimp only
    exact ⟨congrArg AV.bool (by first | (rw [kidsB_at hi, if_pos (by omega)]) | (rw [hgo, kidsGo_bad hk1 (by omega)]) | (rw [hgo, kidsGo_unfit hk1 hkd (by omega) hal (by unfold fitsP; intro hq; rcases hq with hq | hq; exact absurd hq (by assumption); omega)])), E3⟩
end Go.Proofs.YtpdphdbphhaekaaDoor.Vs
