/-
  Which texts are names; what a node's number and name may be.
-/
import Derived.Test.YtpdphdbphhaekaaDoorTree2
set_option autoImplicit false
set_option linter.unusedVariables false
set_option linter.unusedSimpArgs false
namespace Go.Proofs.YtpdphdbphhaekaaDoor.Vs
open Go.VI Go.Proofs
variable {orc : CallF}
/-- the kind of a keyword or a sign, by the texts of the kinds -/
def kindF (tx : Nat → List UInt8) (s : List UInt8) : Int := if s = [] then 0 else match (List.range 67).find? (fun k => decide (tx k = s)) with | some k => (k : Int) | none => 0
theorem kindF_at {tx : Nat → List UInt8} {s : List UInt8} {k : Nat} (hs : ¬ s = []) (hk : k < 67) (h : ∀ j, j < k → ¬ tx j = s) (he : tx k = s) : kindF tx s = (k : Int) := by
  unfold kindF
  rw [if_neg hs]
  have : (List.range 67).find? (fun k => decide (tx k = s)) = some k := by
    rw [List.find?_eq_some_iff_getElem]
    refine ⟨by simp [he], k, by simpa using hk, by simp, fun j hj => ?_⟩
    simp [h j hj]
  rw [this]
theorem kindF_no {tx : Nat → List UInt8} {s : List UInt8} (hs : ¬ s = []) (h : ∀ j, j < 67 → ¬ tx j = s) : kindF tx s = 0 := by
  unfold kindF
  rw [if_neg hs]
  have : (List.range 67).find? (fun k => decide (tx k = s)) = none := by
    rw [List.find?_eq_none]
    intro x hx
    simp [h x (List.mem_range.1 hx)]
  rw [this]
def chP (i : Nat) (c : Int) : Prop := ((97 ≤ c ∧ c ≤ 122) ∨ (65 ≤ c ∧ c ≤ 90) ∨ c = 95) ∨ (i ≠ 0 ∧ 48 ≤ c ∧ c ≤ 57)
instance (i : Nat) (c : Int) : Decidable (chP i c) := by unfold chP; infer_instance
def namedP (tx : Nat → List UInt8) (s : List UInt8) : Prop := s ≠ [] ∧ s.length ≤ 32 ∧ kindF tx s = 0 ∧ ∀ i, (h : i < s.length) → chP i (s[i].toNat : Int)
instance (tx : Nat → List UInt8) (s : List UInt8) : Decidable (namedP tx s) := by unfold namedP; infer_instance
set_option maxRecDepth 100000 in
set_option maxHeartbeats 4000000 in
theorem kind_fin (ho : NoOrcBut [8, 64, 65] orc) {H0 : AH} (W0 : Wf H0) (ho64 : ∃ sg, ∀ H, orc 64 [] H = some (.ret sg, H)) (tx : Nat → List UInt8) (ho65 : ∀ k : Nat, k < 67 → ∀ H, orc 65 [.int .i64 (k : Int)] H = some (.ret (.str (tx k)), H)) (t : List UInt8) : Fin Tryd.prog orc 57 [.str (t)] H0 (fun r H' => r = .int .i64 (kindF tx t) ∧ Ext H0 H') := by
  have E0 := Ext.refl W0
  obtain ⟨sg, hsg⟩ := ho64
  refine fin_of Tryd.func57 rfl (by rw [Tryd.ntmps57]; simp) (ho _ rfl _ _) ?_
  rw [Tryd.ntmps57]
  refine w_seq ?_
  refine w_region ?_
  refine o_rd (r_assign (by simp only [ev, envOf, val_set, ofValue, ofCell, ↓reduceIte, Nat.reduceEqDiff] <;> rfl)) rfl rfl ?_
  refine o_nil ?_
  refine w_seq ?_
  refine w_seq ?_
  refine w_region ?_
  refine o_rd (r_move (by simp only [ev, envOf, val_set, ofValue, ofCell, ↓reduceIte, Nat.reduceEqDiff] <;> rfl)) rfl rfl ?_
  refine o_rd (r_eqS (a := t) (b := []) Tryd.underlying9 (by simp only [ev, envOf, val_set, ofValue, ofCell, ↓reduceIte, Nat.reduceEqDiff] <;> rfl) (by simp only [ev, envOf, val_set, ofValue, ofCell, ↓reduceIte, Nat.reduceEqDiff] <;> rfl)) rfl rfl ?_
  refine o_nil ?_
  refine w_cond (by simp only [ev, envOf, val_set, ofValue, ofCell, ↓reduceIte, Nat.reduceEqDiff] <;> rfl) (fun hB1 => ?_) (fun hB1 => ?_)
  · have hc1 := dec_t hB1
    refine w_seq ?_
    refine w_region ?_
    refine o_rd (r_assign (by simp only [ev, envOf, val_set, ofValue, ofCell, ↓reduceIte, Nat.reduceEqDiff] <;> rfl)) rfl rfl ?_
    refine o_nil ?_
    refine w_ret ⟨.inr rfl, rfl, .int .i64 (0), (show resultA Tryd.prog [.tmp 2] _ = _ by simp only [resultA, resultsA, envOf, val_set, ↓reduceIte, Nat.reduceEqDiff, Option.map_some] <;> rfl), ?_⟩
    try dsimp only
    exact ⟨congrArg (AV.int .i64) (show (0 : Int) = kindF tx t by unfold kindF; rw [if_pos hc1]), E0⟩
  · have hc1 := dec_f hB1
    refine w_skip ?_
    refine w_seq ?_
    refine w_seq ?_
    refine w_region ?_
    refine o_cl rfl rfl (by simp only [evs, ev, envOf, val_set, ofValue, ofCell, ↓reduceIte, Nat.reduceEqDiff] <;> rfl) rfl (fin_orc hsg W0) rfl rfl ?_; rintro _ H2 ⟨rfl, X2⟩
    have W2 := X2.wf; have E2 := E0.trans X2
    have n2 := X2.n
    refine o_rd (r_move (by simp only [ev, envOf, val_set, ofValue, ofCell, ↓reduceIte, Nat.reduceEqDiff] <;> rfl)) rfl rfl ?_
    refine o_rd (r_addE (a := 40) (b := 27) (c := 67) (by simp only [ev, envOf, val_set, ofValue, ofCell, ↓reduceIte, Nat.reduceEqDiff] <;> rfl) (by simp only [ev, envOf, val_set, ofValue, ofCell, ↓reduceIte, Nat.reduceEqDiff] <;> rfl) (by omega) (by omega) (by omega)) rfl rfl ?_
    refine o_rd (r_move (by simp only [ev, envOf, val_set, ofValue, ofCell, ↓reduceIte, Nat.reduceEqDiff] <;> rfl)) rfl rfl ?_
    refine o_nil ?_
    refine w_block ?_
    refine w_loop (fun m s => ∃ (e : Env) (H : AH) (i : Nat), s = ⟨e, H, []⟩ ∧ e.val 0 = .str (t) ∧ e.val 2 = .int .i64 (0) ∧ e.val 8 = .int .i64 (67) ∧ e.val 9 = .int .i64 (((i : Nat) : Int)) ∧ Wf H ∧ Ext H0 H ∧ (∀ j, j < i → ¬ tx j = t) ∧ (i + m = 67)) (67) ⟨_, H2, 0, rfl, (by simp only [val_set, ↓reduceIte, Nat.reduceEqDiff] <;> rfl), (by simp only [val_set, ↓reduceIte, Nat.reduceEqDiff] <;> rfl), (by simp only [val_set, ↓reduceIte, Nat.reduceEqDiff] <;> rfl), (by simp only [val_set, ↓reduceIte, Nat.reduceEqDiff] <;> rfl), W2, E2, (fun j h => by omega), (by omega)⟩ ?_
    intro m s hi
    obtain ⟨e, H3, i, rfl, v0, v2, v8, v9, W3, E3, hno, him⟩ := hi
    refine w_seq ?_
    refine w_region ?_
    refine o_rd (r_lt (a := ((i : Nat) : Int)) (b := 67) (by simp only [ev, envOf, val_set, ofValue, ofCell, ↓reduceIte, Nat.reduceEqDiff, v0, v2, v8, v9] <;> rfl) (by simp only [ev, envOf, val_set, ofValue, ofCell, ↓reduceIte, Nat.reduceEqDiff, v0, v2, v8, v9] <;> rfl)) rfl rfl ?_
    refine o_nil ?_
    refine w_seq ?_
    refine w_cond (by simp only [ev, envOf, val_set, ofValue, ofCell, ↓reduceIte, Nat.reduceEqDiff, v0, v2, v8, v9] <;> rfl) (fun hB4 => ?_) (fun hB4 => ?_)
    · have hc4 := dec_t hB4
      refine w_skip ?_
      refine w_seq ?_
      refine w_block ?_
      refine w_seq ?_
      refine w_region ?_
      refine o_rd (r_move (by simp only [ev, envOf, val_set, ofValue, ofCell, ↓reduceIte, Nat.reduceEqDiff, v0, v2, v8, v9] <;> rfl)) rfl rfl ?_
      refine o_rd (r_assign (by simp only [ev, envOf, val_set, ofValue, ofCell, ↓reduceIte, Nat.reduceEqDiff, v0, v2, v8, v9] <;> rfl)) rfl rfl ?_
      refine o_nil ?_
      refine w_seq ?_
      refine w_region ?_
      refine o_rd (r_move (by simp only [ev, envOf, val_set, ofValue, ofCell, ↓reduceIte, Nat.reduceEqDiff, v0, v2, v8, v9] <;> rfl)) rfl rfl ?_
      refine o_cl rfl rfl (by simp only [evs, ev, envOf, val_set, ofValue, ofCell, ↓reduceIte, Nat.reduceEqDiff, v0, v2, v8, v9] <;> rfl) rfl (fin_orc (ho65 i (by omega)) W3) rfl rfl ?_; rintro _ H5 ⟨rfl, X5⟩
      have W5 := X5.wf; have E5 := E3.trans X5
      have n5 := X5.n
      refine o_rd (r_move (by simp only [ev, envOf, val_set, ofValue, ofCell, ↓reduceIte, Nat.reduceEqDiff, v0, v2, v8, v9] <;> rfl)) rfl rfl ?_
      refine o_rd (r_eqS (a := tx i) (b := t) Tryd.underlying9 (by simp only [ev, envOf, val_set, ofValue, ofCell, ↓reduceIte, Nat.reduceEqDiff, v0, v2, v8, v9] <;> rfl) (by simp only [ev, envOf, val_set, ofValue, ofCell, ↓reduceIte, Nat.reduceEqDiff, v0, v2, v8, v9] <;> rfl)) rfl rfl ?_
      refine o_nil ?_
      refine w_cond (by simp only [ev, envOf, val_set, ofValue, ofCell, ↓reduceIte, Nat.reduceEqDiff, v0, v2, v8, v9] <;> rfl) (fun hB6 => ?_) (fun hB6 => ?_)
      · have hc6 := dec_t hB6
        refine w_seq ?_
        refine w_region ?_
        refine o_rd (r_move (by simp only [ev, envOf, val_set, ofValue, ofCell, ↓reduceIte, Nat.reduceEqDiff, v0, v2, v8, v9] <;> rfl)) rfl rfl ?_
        refine o_rd (r_assign (by simp only [ev, envOf, val_set, ofValue, ofCell, ↓reduceIte, Nat.reduceEqDiff, v0, v2, v8, v9] <;> rfl)) rfl rfl ?_
        refine o_nil ?_
        refine w_ret ⟨.inr rfl, rfl, .int .i64 (((i : Nat) : Int)), (show resultA Tryd.prog [.tmp 2] _ = _ by simp only [resultA, resultsA, envOf, val_set, ↓reduceIte, Nat.reduceEqDiff, Option.map_some, v0, v2, v8, v9] <;> rfl), ?_⟩
        try dsimp only
        exact ⟨congrArg (AV.int .i64) (kindF_at hc1 (by omega) hno hc6).symm, E5⟩
      · have hc6 := dec_f hB6
        refine w_skip ?_
        refine w_region ?_
        refine o_rd (r_addE (a := ((i : Nat) : Int)) (b := 1) (c := ((i + 1 : Nat) : Int)) (by simp only [ev, envOf, val_set, ofValue, ofCell, ↓reduceIte, Nat.reduceEqDiff, v0, v2, v8, v9] <;> rfl) (by simp only [ev, envOf, val_set, ofValue, ofCell, ↓reduceIte, Nat.reduceEqDiff, v0, v2, v8, v9] <;> rfl) (by omega) (by omega) (by omega)) rfl rfl ?_
        refine o_rd (r_move (by simp only [ev, envOf, val_set, ofValue, ofCell, ↓reduceIte, Nat.reduceEqDiff, v0, v2, v8, v9] <;> rfl)) rfl rfl ?_
        refine o_nil ?_
        exact ⟨m - 1, (by omega), _, H5, i + 1, rfl, (by simp only [val_set, ↓reduceIte, Nat.reduceEqDiff, v0, v2, v8, v9] <;> rfl), (by simp only [val_set, ↓reduceIte, Nat.reduceEqDiff, v0, v2, v8, v9] <;> rfl), (by simp only [val_set, ↓reduceIte, Nat.reduceEqDiff, v0, v2, v8, v9] <;> rfl), (by simp only [val_set, ↓reduceIte, Nat.reduceEqDiff, v0, v2, v8, v9] <;> rfl), W5, E5, (fun j h => by rcases Nat.lt_succ_iff_lt_or_eq.1 h with h | h <;> first | exact hno j h | (subst h; assumption)), (by omega)⟩
    · have hc4 := dec_f hB4
      first | refine w_exit (blk_exit ?_) | refine w_exit (show (0 = 0 → _) ∧ (0 ≠ 0 → _) from ⟨fun _ => ?_, fun c => absurd rfl c⟩)
      refine w_seq ?_
      refine w_region ?_
      refine o_rd (r_assign (by simp only [ev, envOf, val_set, ofValue, ofCell, ↓reduceIte, Nat.reduceEqDiff, v0, v2, v8, v9] <;> rfl)) rfl rfl ?_
      refine o_nil ?_
      refine w_ret ⟨.inr rfl, rfl, .int .i64 (0), (show resultA Tryd.prog [.tmp 2] _ = _ by simp only [resultA, resultsA, envOf, val_set, ↓reduceIte, Nat.reduceEqDiff, Option.map_some, v0, v2, v8, v9] <;> rfl), ?_⟩
      try dsimp only
      exact ⟨congrArg (AV.int .i64) (kindF_no hc1 (fun j h => hno j (by omega))).symm, E3⟩
set_option maxRecDepth 100000 in
set_option maxHeartbeats 4000000 in
theorem named_fin (ho : NoOrcBut [8, 64, 65] orc) {H0 : AH} (W0 : Wf H0) (ho64 : ∃ sg, ∀ H, orc 64 [] H = some (.ret sg, H)) (tx : Nat → List UInt8) (ho65 : ∀ k : Nat, k < 67 → ∀ H, orc 65 [.int .i64 (k : Int)] H = some (.ret (.str (tx k)), H)) (t : List UInt8) (htl : t.length ≤ 4611686018427387904) : Fin Tryd.prog orc 39 [.str (t)] H0 (fun r H' => r = .bool (decide (namedP tx t)) ∧ Ext H0 H') := by
  have E0 := Ext.refl W0
  refine fin_of Tryd.func39 rfl (by rw [Tryd.ntmps39]; simp) (ho _ rfl _ _) ?_
  rw [Tryd.ntmps39]
  refine w_seq ?_
  refine w_region ?_
  refine o_rd (r_assign (by simp only [ev, envOf, val_set, ofValue, ofCell, ↓reduceIte, Nat.reduceEqDiff] <;> rfl)) rfl rfl ?_
  refine o_nil ?_
  refine w_seq ?_
  refine w_seq ?_
  refine w_region ?_
  refine o_rd (r_move (by simp only [ev, envOf, val_set, ofValue, ofCell, ↓reduceIte, Nat.reduceEqDiff] <;> rfl)) rfl rfl ?_
  refine o_rd (r_eqS (a := t) (b := []) Tryd.underlying9 (by simp only [ev, envOf, val_set, ofValue, ofCell, ↓reduceIte, Nat.reduceEqDiff] <;> rfl) (by simp only [ev, envOf, val_set, ofValue, ofCell, ↓reduceIte, Nat.reduceEqDiff] <;> rfl)) rfl rfl ?_
  refine o_rd (r_move (by simp only [ev, envOf, val_set, ofValue, ofCell, ↓reduceIte, Nat.reduceEqDiff] <;> rfl)) rfl rfl ?_
  cases hg1 : (decide (t = []) : Bool)
  · have hg1 := dec_f hg1
    refine o_rd (r_move (by simp only [ev, envOf, val_set, ofValue, ofCell, ↓reduceIte, Nat.reduceEqDiff] <;> rfl)) rfl ((wanted_of (b := false) rfl rfl rfl (by simp only [val_set, ↓reduceIte, Nat.reduceEqDiff] <;> rfl)).trans rfl) ?_
    refine o_rd (r_lenStr Tryd.underlying9 (by simp only [ev, envOf, val_set, ofValue, ofCell, ↓reduceIte, Nat.reduceEqDiff] <;> rfl)) rfl ((wanted_of (b := false) rfl rfl rfl (by simp only [val_set, ↓reduceIte, Nat.reduceEqDiff] <;> rfl)).trans rfl) ?_
    refine o_rd (r_gt (a := (((t).length : Nat) : Int)) (b := 32) (by simp only [ev, envOf, val_set, ofValue, ofCell, ↓reduceIte, Nat.reduceEqDiff] <;> rfl) (by simp only [ev, envOf, val_set, ofValue, ofCell, ↓reduceIte, Nat.reduceEqDiff] <;> rfl)) rfl ((wanted_of (b := false) rfl rfl rfl (by simp only [val_set, ↓reduceIte, Nat.reduceEqDiff] <;> rfl)).trans rfl) ?_
    refine o_rd (r_pick (t := false) (by simp only [ev, envOf, val_set, ofValue, ofCell, ↓reduceIte, Nat.reduceEqDiff] <;> rfl) (fun h => by cases h) (fun _ => (by simp only [ev, envOf, val_set, ofValue, ofCell, ↓reduceIte, Nat.reduceEqDiff] <;> rfl))) rfl rfl ?_
    refine o_rd (r_move (by simp only [ev, envOf, val_set, ofValue, ofCell, ↓reduceIte, Nat.reduceEqDiff] <;> rfl)) rfl rfl ?_
    cases hg2 : (decide (32 < (((t).length : Nat) : Int)) : Bool)
    · have hg2 := dec_f hg2
      refine o_rd (r_move (by simp only [ev, envOf, val_set, ofValue, ofCell, ↓reduceIte, Nat.reduceEqDiff] <;> rfl)) rfl ((wanted_of (b := false) rfl rfl rfl (by simp only [val_set, ↓reduceIte, Nat.reduceEqDiff] <;> rfl)).trans rfl) ?_
      refine o_cl rfl rfl (by simp only [evs, ev, envOf, val_set, ofValue, ofCell, ↓reduceIte, Nat.reduceEqDiff] <;> rfl) rfl (kind_fin ho W0 ho64 tx ho65 t) rfl ((wanted_of (b := false) rfl rfl rfl (by simp only [val_set, ↓reduceIte, Nat.reduceEqDiff] <;> rfl)).trans rfl) ?_; rintro _ H3 ⟨rfl, X3⟩
      have W3 := X3.wf; have E3 := E0.trans X3
      have n3 := X3.n
      refine o_rd (r_ne (a := kindF tx t) (b := 0) (by simp only [ev, envOf, val_set, ofValue, ofCell, ↓reduceIte, Nat.reduceEqDiff] <;> rfl) (by simp only [ev, envOf, val_set, ofValue, ofCell, ↓reduceIte, Nat.reduceEqDiff] <;> rfl)) rfl ((wanted_of (b := false) rfl rfl rfl (by simp only [val_set, ↓reduceIte, Nat.reduceEqDiff] <;> rfl)).trans rfl) ?_
      refine o_rd (r_pick (t := false) (by simp only [ev, envOf, val_set, ofValue, ofCell, ↓reduceIte, Nat.reduceEqDiff] <;> rfl) (fun h => by cases h) (fun _ => (by simp only [ev, envOf, val_set, ofValue, ofCell, ↓reduceIte, Nat.reduceEqDiff] <;> rfl))) rfl rfl ?_
      refine o_nil ?_
      refine w_cond (by simp only [ev, envOf, val_set, ofValue, ofCell, ↓reduceIte, Nat.reduceEqDiff] <;> rfl) (fun hB4 => ?_) (fun hB4 => ?_)
      · have hc4 := dec_t hB4
        refine w_seq ?_
        refine w_region ?_
        refine o_rd (r_assign (by simp only [ev, envOf, val_set, ofValue, ofCell, ↓reduceIte, Nat.reduceEqDiff] <;> rfl)) rfl rfl ?_
        refine o_nil ?_
        refine w_ret ⟨.inr rfl, rfl, .bool (false), (show resultA Tryd.prog [.tmp 2] _ = _ by simp only [resultA, resultsA, envOf, val_set, ↓reduceIte, Nat.reduceEqDiff, Option.map_some] <;> rfl), ?_⟩
        try dsimp only
        refine ⟨congrArg AV.bool (Eq.symm (decide_eq_false ?_)), E3⟩
        rintro ⟨h1, h2, h3, h4⟩
        first | exact absurd (by assumption) h1 | omega | (exact absurd h3 (by assumption)) | (have h5 := h4 i (by assumption); rw [(List.getElem?_eq_some_iff.1 hc0).2] at h5; unfold chP at h5; omega)
      · have hc4 := dec_fn hB4
        refine w_skip ?_
        refine w_seq ?_
        refine w_seq ?_
        refine w_region ?_
        refine o_rd (r_move (by simp only [ev, envOf, val_set, ofValue, ofCell, ↓reduceIte, Nat.reduceEqDiff] <;> rfl)) rfl rfl ?_
        refine o_rd (r_lenStr Tryd.underlying9 (by simp only [ev, envOf, val_set, ofValue, ofCell, ↓reduceIte, Nat.reduceEqDiff] <;> rfl)) rfl rfl ?_
        refine o_rd (r_move (by simp only [ev, envOf, val_set, ofValue, ofCell, ↓reduceIte, Nat.reduceEqDiff] <;> rfl)) rfl rfl ?_
        refine o_nil ?_
        refine w_block ?_
        refine w_loop (fun m s => ∃ (e : Env) (H : AH) (i : Nat), s = ⟨e, H, []⟩ ∧ e.val 0 = .str (t) ∧ e.val 2 = .bool (false) ∧ e.val 19 = .int .i64 ((((t).length : Nat) : Int)) ∧ e.val 20 = .int .i64 (((i : Nat) : Int)) ∧ Wf H ∧ Ext H0 H ∧ (∀ j, (h : j < t.length) → j < i → chP j (t[j].toNat : Int)) ∧ (i + m = t.length)) (t.length) ⟨_, H3, 0, rfl, (by simp only [val_set, ↓reduceIte, Nat.reduceEqDiff] <;> rfl), (by simp only [val_set, ↓reduceIte, Nat.reduceEqDiff] <;> rfl), (by simp only [val_set, ↓reduceIte, Nat.reduceEqDiff] <;> rfl), (by simp only [val_set, ↓reduceIte, Nat.reduceEqDiff] <;> rfl), W3, E3, (fun j _ h => by omega), (by omega)⟩ ?_
        intro m s hi
        obtain ⟨e, H5, i, rfl, v0, v2, v19, v20, W5, E5, hok, him⟩ := hi
        refine w_seq ?_
        refine w_region ?_
        refine o_rd (r_lt (a := ((i : Nat) : Int)) (b := (((t).length : Nat) : Int)) (by simp only [ev, envOf, val_set, ofValue, ofCell, ↓reduceIte, Nat.reduceEqDiff, v0, v2, v19, v20] <;> rfl) (by simp only [ev, envOf, val_set, ofValue, ofCell, ↓reduceIte, Nat.reduceEqDiff, v0, v2, v19, v20] <;> rfl)) rfl rfl ?_
        refine o_nil ?_
        refine w_seq ?_
        refine w_cond (by simp only [ev, envOf, val_set, ofValue, ofCell, ↓reduceIte, Nat.reduceEqDiff, v0, v2, v19, v20] <;> rfl) (fun hB6 => ?_) (fun hB6 => ?_)
        · have hc6 := dec_t hB6
          refine w_skip ?_
          refine w_seq ?_
          refine w_block ?_
          refine w_seq ?_
          refine w_region ?_
          refine o_rd (r_move (by simp only [ev, envOf, val_set, ofValue, ofCell, ↓reduceIte, Nat.reduceEqDiff, v0, v2, v19, v20] <;> rfl)) rfl rfl ?_
          refine o_rd (r_assign (by simp only [ev, envOf, val_set, ofValue, ofCell, ↓reduceIte, Nat.reduceEqDiff, v0, v2, v19, v20] <;> rfl)) rfl rfl ?_
          refine o_nil ?_
          refine w_seq ?_
          refine w_region ?_
          refine o_rd (r_move (by simp only [ev, envOf, val_set, ofValue, ofCell, ↓reduceIte, Nat.reduceEqDiff, v0, v2, v19, v20] <;> rfl)) rfl rfl ?_
          refine o_rd (r_move (by simp only [ev, envOf, val_set, ofValue, ofCell, ↓reduceIte, Nat.reduceEqDiff, v0, v2, v19, v20] <;> rfl)) rfl rfl ?_
          have hi1 : i < t.length := by omega
          obtain ⟨c, hc0⟩ : ∃ c, t[i]? = some c := ⟨t[i], List.getElem?_eq_getElem hi1⟩
          refine o_rd (r_idxS (j := i) (c := c) Tryd.underlying9 (by simp only [ev, envOf, val_set, ofValue, ofCell, ↓reduceIte, Nat.reduceEqDiff, v0, v2, v19, v20] <;> rfl) (by simp only [ev, envOf, val_set, ofValue, ofCell, ↓reduceIte, Nat.reduceEqDiff, v0, v2, v19, v20] <;> rfl) hc0) rfl rfl ?_
          refine o_rd (r_assign (by simp only [ev, envOf, val_set, ofValue, ofCell, ↓reduceIte, Nat.reduceEqDiff, v0, v2, v19, v20] <;> rfl)) rfl rfl ?_
          refine o_nil ?_
          refine w_seq ?_
          refine w_region ?_
          refine o_rd (r_move (by simp only [ev, envOf, val_set, ofValue, ofCell, ↓reduceIte, Nat.reduceEqDiff, v0, v2, v19, v20] <;> rfl)) rfl rfl ?_
          refine o_rd (r_ge (a := ((c.toNat : Nat) : Int)) (b := 97) (by simp only [ev, envOf, val_set, ofValue, ofCell, ↓reduceIte, Nat.reduceEqDiff, v0, v2, v19, v20] <;> rfl) (by simp only [ev, envOf, val_set, ofValue, ofCell, ↓reduceIte, Nat.reduceEqDiff, v0, v2, v19, v20] <;> rfl)) rfl rfl ?_
          refine o_rd (r_move (by simp only [ev, envOf, val_set, ofValue, ofCell, ↓reduceIte, Nat.reduceEqDiff, v0, v2, v19, v20] <;> rfl)) rfl rfl ?_
          cases hg7 : (decide (97 ≤ ((c.toNat : Nat) : Int)) : Bool)
          · have hg7 := dec_f hg7
            refine o_sk rfl ((wanted_of (b := false) rfl rfl rfl (by simp only [val_set, ↓reduceIte, Nat.reduceEqDiff, v0, v2, v19, v20] <;> rfl)).trans rfl) ?_
            refine o_sk rfl ((wanted_of (b := false) rfl rfl rfl (by simp only [val_set, ↓reduceIte, Nat.reduceEqDiff, v0, v2, v19, v20] <;> rfl)).trans rfl) ?_
            refine o_rd (r_pick (t := false) (by simp only [ev, envOf, val_set, ofValue, ofCell, ↓reduceIte, Nat.reduceEqDiff, v0, v2, v19, v20] <;> rfl) (fun h => by cases h) (fun _ => (by simp only [ev, envOf, val_set, ofValue, ofCell, ↓reduceIte, Nat.reduceEqDiff, v0, v2, v19, v20] <;> rfl))) rfl rfl ?_
            refine o_rd (r_move (by simp only [ev, envOf, val_set, ofValue, ofCell, ↓reduceIte, Nat.reduceEqDiff, v0, v2, v19, v20] <;> rfl)) rfl rfl ?_
            refine o_rd (r_move (by simp only [ev, envOf, val_set, ofValue, ofCell, ↓reduceIte, Nat.reduceEqDiff, v0, v2, v19, v20] <;> rfl)) rfl ((wanted_of (b := false) rfl rfl rfl (by simp only [val_set, ↓reduceIte, Nat.reduceEqDiff, v0, v2, v19, v20] <;> rfl)).trans rfl) ?_
            refine o_rd (r_ge (a := ((c.toNat : Nat) : Int)) (b := 65) (by simp only [ev, envOf, val_set, ofValue, ofCell, ↓reduceIte, Nat.reduceEqDiff, v0, v2, v19, v20] <;> rfl) (by simp only [ev, envOf, val_set, ofValue, ofCell, ↓reduceIte, Nat.reduceEqDiff, v0, v2, v19, v20] <;> rfl)) rfl ((wanted_of (b := false) rfl rfl rfl (by simp only [val_set, ↓reduceIte, Nat.reduceEqDiff, v0, v2, v19, v20] <;> rfl)).trans rfl) ?_
            refine o_rd (r_move (by simp only [ev, envOf, val_set, ofValue, ofCell, ↓reduceIte, Nat.reduceEqDiff, v0, v2, v19, v20] <;> rfl)) rfl ((wanted_of (b := false) rfl rfl rfl (by simp only [val_set, ↓reduceIte, Nat.reduceEqDiff, v0, v2, v19, v20] <;> rfl)).trans rfl) ?_
            cases hg8 : (decide (65 ≤ ((c.toNat : Nat) : Int)) : Bool)
            · have hg8 := dec_f hg8
              refine o_sk rfl ((wanted_of (b := false) rfl rfl rfl (by simp only [val_set, ↓reduceIte, Nat.reduceEqDiff, v0, v2, v19, v20] <;> rfl)).trans rfl) ?_
              refine o_sk rfl ((wanted_of (b := false) rfl rfl rfl (by simp only [val_set, ↓reduceIte, Nat.reduceEqDiff, v0, v2, v19, v20] <;> rfl)).trans rfl) ?_
              refine o_rd (r_pick (t := false) (by simp only [ev, envOf, val_set, ofValue, ofCell, ↓reduceIte, Nat.reduceEqDiff, v0, v2, v19, v20] <;> rfl) (fun h => by cases h) (fun _ => (by simp only [ev, envOf, val_set, ofValue, ofCell, ↓reduceIte, Nat.reduceEqDiff, v0, v2, v19, v20] <;> rfl))) rfl ((wanted_of (b := false) rfl rfl rfl (by simp only [val_set, ↓reduceIte, Nat.reduceEqDiff, v0, v2, v19, v20] <;> rfl)).trans rfl) ?_
              refine o_rd (r_pick (t := false) (by simp only [ev, envOf, val_set, ofValue, ofCell, ↓reduceIte, Nat.reduceEqDiff, v0, v2, v19, v20] <;> rfl) (fun h => by cases h) (fun _ => (by simp only [ev, envOf, val_set, ofValue, ofCell, ↓reduceIte, Nat.reduceEqDiff, v0, v2, v19, v20] <;> rfl))) rfl rfl ?_
              refine o_rd (r_move (by simp only [ev, envOf, val_set, ofValue, ofCell, ↓reduceIte, Nat.reduceEqDiff, v0, v2, v19, v20] <;> rfl)) rfl rfl ?_
              refine o_rd (r_move (by simp only [ev, envOf, val_set, ofValue, ofCell, ↓reduceIte, Nat.reduceEqDiff, v0, v2, v19, v20] <;> rfl)) rfl ((wanted_of (b := false) rfl rfl rfl (by simp only [val_set, ↓reduceIte, Nat.reduceEqDiff, v0, v2, v19, v20] <;> rfl)).trans rfl) ?_
              refine o_rd (r_eq (a := ((c.toNat : Nat) : Int)) (b := 95) (by simp only [ev, envOf, val_set, ofValue, ofCell, ↓reduceIte, Nat.reduceEqDiff, v0, v2, v19, v20] <;> rfl) (by simp only [ev, envOf, val_set, ofValue, ofCell, ↓reduceIte, Nat.reduceEqDiff, v0, v2, v19, v20] <;> rfl)) rfl ((wanted_of (b := false) rfl rfl rfl (by simp only [val_set, ↓reduceIte, Nat.reduceEqDiff, v0, v2, v19, v20] <;> rfl)).trans rfl) ?_
              refine o_rd (r_pick (t := false) (by simp only [ev, envOf, val_set, ofValue, ofCell, ↓reduceIte, Nat.reduceEqDiff, v0, v2, v19, v20] <;> rfl) (fun h => by cases h) (fun _ => (by simp only [ev, envOf, val_set, ofValue, ofCell, ↓reduceIte, Nat.reduceEqDiff, v0, v2, v19, v20] <;> rfl))) rfl rfl ?_
              refine o_rd (r_assign (by simp only [ev, envOf, val_set, ofValue, ofCell, ↓reduceIte, Nat.reduceEqDiff, v0, v2, v19, v20] <;> rfl)) rfl rfl ?_
              refine o_nil ?_
              refine w_seq ?_
              refine w_region ?_
              refine o_rd (r_move (by simp only [ev, envOf, val_set, ofValue, ofCell, ↓reduceIte, Nat.reduceEqDiff, v0, v2, v19, v20] <;> rfl)) rfl rfl ?_
              refine o_rd (r_not (by simp only [ev, envOf, val_set, ofValue, ofCell, ↓reduceIte, Nat.reduceEqDiff, v0, v2, v19, v20] <;> rfl)) rfl rfl ?_
              refine o_rd (r_move (by simp only [ev, envOf, val_set, ofValue, ofCell, ↓reduceIte, Nat.reduceEqDiff, v0, v2, v19, v20] <;> rfl)) rfl rfl ?_
              cases hg9 : (!(decide (((c.toNat : Nat) : Int) = 95)) : Bool)
              · have hg9 := dec_t (not_f hg9)
                refine o_sk rfl ((wanted_of (b := false) rfl rfl rfl (by simp only [val_set, ↓reduceIte, Nat.reduceEqDiff, v0, v2, v19, v20] <;> rfl)).trans rfl) ?_
                refine o_sk rfl ((wanted_of (b := false) rfl rfl rfl (by simp only [val_set, ↓reduceIte, Nat.reduceEqDiff, v0, v2, v19, v20] <;> rfl)).trans rfl) ?_
                refine o_sk rfl ((wanted_of (b := false) rfl rfl rfl (by simp only [val_set, ↓reduceIte, Nat.reduceEqDiff, v0, v2, v19, v20] <;> rfl)).trans rfl) ?_
                refine o_sk rfl (wanted_no rfl rfl rfl (by simp only [val_set, ↓reduceIte, Nat.reduceEqDiff, v0, v2, v19, v20] <;> rfl)) ?_
                refine o_sk rfl (wanted_no rfl rfl rfl (by simp only [val_set, ↓reduceIte, Nat.reduceEqDiff, v0, v2, v19, v20] <;> rfl)) ?_
                refine o_sk rfl ((wanted_of (b := false) rfl rfl rfl (by simp only [val_set, ↓reduceIte, Nat.reduceEqDiff, v0, v2, v19, v20] <;> rfl)).trans rfl) ?_
                refine o_sk rfl ((wanted_of (b := false) rfl rfl rfl (by simp only [val_set, ↓reduceIte, Nat.reduceEqDiff, v0, v2, v19, v20] <;> rfl)).trans rfl) ?_
                refine o_sk rfl (wanted_no rfl rfl rfl (by simp only [val_set, ↓reduceIte, Nat.reduceEqDiff, v0, v2, v19, v20] <;> rfl)) ?_
                refine o_sk rfl (wanted_no rfl rfl rfl (by simp only [val_set, ↓reduceIte, Nat.reduceEqDiff, v0, v2, v19, v20] <;> rfl)) ?_
                refine o_sk rfl ((wanted_of (b := false) rfl rfl rfl (by simp only [val_set, ↓reduceIte, Nat.reduceEqDiff, v0, v2, v19, v20] <;> rfl)).trans rfl) ?_
                refine o_rd (r_pick (t := false) (by simp only [ev, envOf, val_set, ofValue, ofCell, ↓reduceIte, Nat.reduceEqDiff, v0, v2, v19, v20] <;> rfl) (fun h => by cases h) (fun _ => (by simp only [ev, envOf, val_set, ofValue, ofCell, ↓reduceIte, Nat.reduceEqDiff, v0, v2, v19, v20] <;> rfl))) rfl rfl ?_
                refine o_nil ?_
                refine w_cond (t := false) (by simp only [ev, envOf, val_set, ofValue, ofCell, ↓reduceIte, Nat.reduceEqDiff, v0, v2, v19, v20] <;> rfl) (fun h => by cases h) (fun _ => ?_)
                refine w_skip ?_
                refine w_region ?_
                refine o_rd (r_addE (a := ((i : Nat) : Int)) (b := 1) (c := ((i + 1 : Nat) : Int)) (by simp only [ev, envOf, val_set, ofValue, ofCell, ↓reduceIte, Nat.reduceEqDiff, v0, v2, v19, v20] <;> rfl) (by simp only [ev, envOf, val_set, ofValue, ofCell, ↓reduceIte, Nat.reduceEqDiff, v0, v2, v19, v20] <;> rfl) (by omega) (by omega) (by omega)) rfl rfl ?_
                refine o_rd (r_move (by simp only [ev, envOf, val_set, ofValue, ofCell, ↓reduceIte, Nat.reduceEqDiff, v0, v2, v19, v20] <;> rfl)) rfl rfl ?_
                refine o_nil ?_
                exact ⟨m - 1, (by omega), _, H5, i + 1, rfl, (by simp only [val_set, ↓reduceIte, Nat.reduceEqDiff, v0, v2, v19, v20] <;> rfl), (by simp only [val_set, ↓reduceIte, Nat.reduceEqDiff, v0, v2, v19, v20] <;> rfl), (by simp only [val_set, ↓reduceIte, Nat.reduceEqDiff, v0, v2, v19, v20] <;> rfl), (by simp only [val_set, ↓reduceIte, Nat.reduceEqDiff, v0, v2, v19, v20] <;> rfl), W5, E5, (fun j h hj => by rcases Nat.lt_succ_iff_lt_or_eq.1 hj with h2 | h2 <;> first | exact hok j h h2 | (subst h2; rw [(List.getElem?_eq_some_iff.1 hc0).2]; unfold chP; omega)), (by omega)⟩
              · have hg9 := dec_f (not_t hg9)
                refine o_rd (r_move (by simp only [ev, envOf, val_set, ofValue, ofCell, ↓reduceIte, Nat.reduceEqDiff, v0, v2, v19, v20] <;> rfl)) rfl ((wanted_of (b := true) rfl rfl rfl (by simp only [val_set, ↓reduceIte, Nat.reduceEqDiff, v0, v2, v19, v20] <;> rfl)).trans rfl) ?_
                refine o_rd (r_eq (a := ((i : Nat) : Int)) (b := 0) (by simp only [ev, envOf, val_set, ofValue, ofCell, ↓reduceIte, Nat.reduceEqDiff, v0, v2, v19, v20] <;> rfl) (by simp only [ev, envOf, val_set, ofValue, ofCell, ↓reduceIte, Nat.reduceEqDiff, v0, v2, v19, v20] <;> rfl)) rfl ((wanted_of (b := true) rfl rfl rfl (by simp only [val_set, ↓reduceIte, Nat.reduceEqDiff, v0, v2, v19, v20] <;> rfl)).trans rfl) ?_
                refine o_rd (r_move (by simp only [ev, envOf, val_set, ofValue, ofCell, ↓reduceIte, Nat.reduceEqDiff, v0, v2, v19, v20] <;> rfl)) rfl ((wanted_of (b := true) rfl rfl rfl (by simp only [val_set, ↓reduceIte, Nat.reduceEqDiff, v0, v2, v19, v20] <;> rfl)).trans rfl) ?_
                cases hg10 : (decide (((i : Nat) : Int) = 0) : Bool)
                · have hg10 := dec_f hg10
                  refine o_rd (r_move (by simp only [ev, envOf, val_set, ofValue, ofCell, ↓reduceIte, Nat.reduceEqDiff, v0, v2, v19, v20] <;> rfl)) rfl ((wanted_of (b := false) rfl rfl rfl (by simp only [val_set, ↓reduceIte, Nat.reduceEqDiff, v0, v2, v19, v20] <;> rfl)).trans rfl) ?_
                  refine o_rd (r_lt (a := ((c.toNat : Nat) : Int)) (b := 48) (by simp only [ev, envOf, val_set, ofValue, ofCell, ↓reduceIte, Nat.reduceEqDiff, v0, v2, v19, v20] <;> rfl) (by simp only [ev, envOf, val_set, ofValue, ofCell, ↓reduceIte, Nat.reduceEqDiff, v0, v2, v19, v20] <;> rfl)) rfl ((wanted_of (b := false) rfl rfl rfl (by simp only [val_set, ↓reduceIte, Nat.reduceEqDiff, v0, v2, v19, v20] <;> rfl)).trans rfl) ?_
                  refine o_rd (r_pick (t := false) (by simp only [ev, envOf, val_set, ofValue, ofCell, ↓reduceIte, Nat.reduceEqDiff, v0, v2, v19, v20] <;> rfl) (fun h => by cases h) (fun _ => (by simp only [ev, envOf, val_set, ofValue, ofCell, ↓reduceIte, Nat.reduceEqDiff, v0, v2, v19, v20] <;> rfl))) rfl ((wanted_of (b := true) rfl rfl rfl (by simp only [val_set, ↓reduceIte, Nat.reduceEqDiff, v0, v2, v19, v20] <;> rfl)).trans rfl) ?_
                  refine o_rd (r_move (by simp only [ev, envOf, val_set, ofValue, ofCell, ↓reduceIte, Nat.reduceEqDiff, v0, v2, v19, v20] <;> rfl)) rfl ((wanted_of (b := true) rfl rfl rfl (by simp only [val_set, ↓reduceIte, Nat.reduceEqDiff, v0, v2, v19, v20] <;> rfl)).trans rfl) ?_
                  cases hg11 : (decide (((c.toNat : Nat) : Int) < 48) : Bool)
                  · have hg11 := dec_f hg11
                    refine o_rd (r_move (by simp only [ev, envOf, val_set, ofValue, ofCell, ↓reduceIte, Nat.reduceEqDiff, v0, v2, v19, v20] <;> rfl)) rfl ((wanted_of (b := false) rfl rfl rfl (by simp only [val_set, ↓reduceIte, Nat.reduceEqDiff, v0, v2, v19, v20] <;> rfl)).trans rfl) ?_
                    refine o_rd (r_gt (a := ((c.toNat : Nat) : Int)) (b := 57) (by simp only [ev, envOf, val_set, ofValue, ofCell, ↓reduceIte, Nat.reduceEqDiff, v0, v2, v19, v20] <;> rfl) (by simp only [ev, envOf, val_set, ofValue, ofCell, ↓reduceIte, Nat.reduceEqDiff, v0, v2, v19, v20] <;> rfl)) rfl ((wanted_of (b := false) rfl rfl rfl (by simp only [val_set, ↓reduceIte, Nat.reduceEqDiff, v0, v2, v19, v20] <;> rfl)).trans rfl) ?_
                    refine o_rd (r_pick (t := false) (by simp only [ev, envOf, val_set, ofValue, ofCell, ↓reduceIte, Nat.reduceEqDiff, v0, v2, v19, v20] <;> rfl) (fun h => by cases h) (fun _ => (by simp only [ev, envOf, val_set, ofValue, ofCell, ↓reduceIte, Nat.reduceEqDiff, v0, v2, v19, v20] <;> rfl))) rfl ((wanted_of (b := true) rfl rfl rfl (by simp only [val_set, ↓reduceIte, Nat.reduceEqDiff, v0, v2, v19, v20] <;> rfl)).trans rfl) ?_
                    refine o_rd (r_pick (t := true) (by simp only [ev, envOf, val_set, ofValue, ofCell, ↓reduceIte, Nat.reduceEqDiff, v0, v2, v19, v20] <;> rfl) (fun _ => (by simp only [ev, envOf, val_set, ofValue, ofCell, ↓reduceIte, Nat.reduceEqDiff, v0, v2, v19, v20] <;> rfl)) (fun h => by cases h)) rfl rfl ?_
                    refine o_nil ?_
                    refine w_cond (by simp only [ev, envOf, val_set, ofValue, ofCell, ↓reduceIte, Nat.reduceEqDiff, v0, v2, v19, v20] <;> rfl) (fun hB12 => ?_) (fun hB12 => ?_)
                    · have hc12 := dec_t hB12
                      refine w_seq ?_
                      refine w_region ?_
                      refine o_rd (r_assign (by simp only [ev, envOf, val_set, ofValue, ofCell, ↓reduceIte, Nat.reduceEqDiff, v0, v2, v19, v20] <;> rfl)) rfl rfl ?_
                      refine o_nil ?_
                      refine w_ret ⟨.inr rfl, rfl, .bool (false), (show resultA Tryd.prog [.tmp 2] _ = _ by simp only [resultA, resultsA, envOf, val_set, ↓reduceIte, Nat.reduceEqDiff, Option.map_some, v0, v2, v19, v20] <;> rfl), ?_⟩
                      try dsimp only
                      refine ⟨congrArg AV.bool (Eq.symm (decide_eq_false ?_)), E5⟩
                      rintro ⟨h1, h2, h3, h4⟩
                      first | exact absurd (by assumption) h1 | omega | (exact absurd h3 (by assumption)) | (have h5 := h4 i (by assumption); rw [(List.getElem?_eq_some_iff.1 hc0).2] at h5; unfold chP at h5; omega)
                    · have hc12 := dec_f hB12
                      refine w_skip ?_
                      refine w_region ?_
                      refine o_rd (r_addE (a := ((i : Nat) : Int)) (b := 1) (c := ((i + 1 : Nat) : Int)) (by simp only [ev, envOf, val_set, ofValue, ofCell, ↓reduceIte, Nat.reduceEqDiff, v0, v2, v19, v20] <;> rfl) (by simp only [ev, envOf, val_set, ofValue, ofCell, ↓reduceIte, Nat.reduceEqDiff, v0, v2, v19, v20] <;> rfl) (by omega) (by omega) (by omega)) rfl rfl ?_
                      refine o_rd (r_move (by simp only [ev, envOf, val_set, ofValue, ofCell, ↓reduceIte, Nat.reduceEqDiff, v0, v2, v19, v20] <;> rfl)) rfl rfl ?_
                      refine o_nil ?_
                      exact ⟨m - 1, (by omega), _, H5, i + 1, rfl, (by simp only [val_set, ↓reduceIte, Nat.reduceEqDiff, v0, v2, v19, v20] <;> rfl), (by simp only [val_set, ↓reduceIte, Nat.reduceEqDiff, v0, v2, v19, v20] <;> rfl), (by simp only [val_set, ↓reduceIte, Nat.reduceEqDiff, v0, v2, v19, v20] <;> rfl), (by simp only [val_set, ↓reduceIte, Nat.reduceEqDiff, v0, v2, v19, v20] <;> rfl), W5, E5, (fun j h hj => by rcases Nat.lt_succ_iff_lt_or_eq.1 hj with h2 | h2 <;> first | exact hok j h h2 | (subst h2; rw [(List.getElem?_eq_some_iff.1 hc0).2]; unfold chP; omega)), (by omega)⟩
                  · have hg11 := dec_t hg11
                    refine o_sk rfl ((wanted_of (b := true) rfl rfl rfl (by simp only [val_set, ↓reduceIte, Nat.reduceEqDiff, v0, v2, v19, v20] <;> rfl)).trans rfl) ?_
                    refine o_sk rfl ((wanted_of (b := true) rfl rfl rfl (by simp only [val_set, ↓reduceIte, Nat.reduceEqDiff, v0, v2, v19, v20] <;> rfl)).trans rfl) ?_
                    refine o_rd (r_pick (t := true) (by simp only [ev, envOf, val_set, ofValue, ofCell, ↓reduceIte, Nat.reduceEqDiff, v0, v2, v19, v20] <;> rfl) (fun _ => (by simp only [ev, envOf, val_set, ofValue, ofCell, ↓reduceIte, Nat.reduceEqDiff, v0, v2, v19, v20] <;> rfl)) (fun h => by cases h)) rfl ((wanted_of (b := true) rfl rfl rfl (by simp only [val_set, ↓reduceIte, Nat.reduceEqDiff, v0, v2, v19, v20] <;> rfl)).trans rfl) ?_
                    refine o_rd (r_pick (t := true) (by simp only [ev, envOf, val_set, ofValue, ofCell, ↓reduceIte, Nat.reduceEqDiff, v0, v2, v19, v20] <;> rfl) (fun _ => (by simp only [ev, envOf, val_set, ofValue, ofCell, ↓reduceIte, Nat.reduceEqDiff, v0, v2, v19, v20] <;> rfl)) (fun h => by cases h)) rfl rfl ?_
                    refine o_nil ?_
                    refine w_cond (t := true) (by simp only [ev, envOf, val_set, ofValue, ofCell, ↓reduceIte, Nat.reduceEqDiff, v0, v2, v19, v20] <;> rfl) (fun _ => ?_) (fun h => by cases h)
                    refine w_seq ?_
                    refine w_region ?_
                    refine o_rd (r_assign (by simp only [ev, envOf, val_set, ofValue, ofCell, ↓reduceIte, Nat.reduceEqDiff, v0, v2, v19, v20] <;> rfl)) rfl rfl ?_
                    refine o_nil ?_
                    refine w_ret ⟨.inr rfl, rfl, .bool (false), (show resultA Tryd.prog [.tmp 2] _ = _ by simp only [resultA, resultsA, envOf, val_set, ↓reduceIte, Nat.reduceEqDiff, Option.map_some, v0, v2, v19, v20] <;> rfl), ?_⟩
                    try dsimp only
                    refine ⟨congrArg AV.bool (Eq.symm (decide_eq_false ?_)), E5⟩
                    rintro ⟨h1, h2, h3, h4⟩
                    first | exact absurd (by assumption) h1 | omega | (exact absurd h3 (by assumption)) | (have h5 := h4 i (by assumption); rw [(List.getElem?_eq_some_iff.1 hc0).2] at h5; unfold chP at h5; omega)
                · have hg10 := dec_t hg10
                  refine o_sk rfl ((wanted_of (b := true) rfl rfl rfl (by simp only [val_set, ↓reduceIte, Nat.reduceEqDiff, v0, v2, v19, v20] <;> rfl)).trans rfl) ?_
                  refine o_sk rfl ((wanted_of (b := true) rfl rfl rfl (by simp only [val_set, ↓reduceIte, Nat.reduceEqDiff, v0, v2, v19, v20] <;> rfl)).trans rfl) ?_
                  refine o_rd (r_pick (t := true) (by simp only [ev, envOf, val_set, ofValue, ofCell, ↓reduceIte, Nat.reduceEqDiff, v0, v2, v19, v20] <;> rfl) (fun _ => (by simp only [ev, envOf, val_set, ofValue, ofCell, ↓reduceIte, Nat.reduceEqDiff, v0, v2, v19, v20] <;> rfl)) (fun h => by cases h)) rfl ((wanted_of (b := true) rfl rfl rfl (by simp only [val_set, ↓reduceIte, Nat.reduceEqDiff, v0, v2, v19, v20] <;> rfl)).trans rfl) ?_
                  refine o_rd (r_move (by simp only [ev, envOf, val_set, ofValue, ofCell, ↓reduceIte, Nat.reduceEqDiff, v0, v2, v19, v20] <;> rfl)) rfl ((wanted_of (b := true) rfl rfl rfl (by simp only [val_set, ↓reduceIte, Nat.reduceEqDiff, v0, v2, v19, v20] <;> rfl)).trans rfl) ?_
                  refine o_sk rfl ((wanted_of (b := true) rfl rfl rfl (by simp only [val_set, ↓reduceIte, Nat.reduceEqDiff, v0, v2, v19, v20] <;> rfl)).trans rfl) ?_
                  refine o_sk rfl ((wanted_of (b := true) rfl rfl rfl (by simp only [val_set, ↓reduceIte, Nat.reduceEqDiff, v0, v2, v19, v20] <;> rfl)).trans rfl) ?_
                  refine o_rd (r_pick (t := true) (by simp only [ev, envOf, val_set, ofValue, ofCell, ↓reduceIte, Nat.reduceEqDiff, v0, v2, v19, v20] <;> rfl) (fun _ => (by simp only [ev, envOf, val_set, ofValue, ofCell, ↓reduceIte, Nat.reduceEqDiff, v0, v2, v19, v20] <;> rfl)) (fun h => by cases h)) rfl ((wanted_of (b := true) rfl rfl rfl (by simp only [val_set, ↓reduceIte, Nat.reduceEqDiff, v0, v2, v19, v20] <;> rfl)).trans rfl) ?_
                  refine o_rd (r_pick (t := true) (by simp only [ev, envOf, val_set, ofValue, ofCell, ↓reduceIte, Nat.reduceEqDiff, v0, v2, v19, v20] <;> rfl) (fun _ => (by simp only [ev, envOf, val_set, ofValue, ofCell, ↓reduceIte, Nat.reduceEqDiff, v0, v2, v19, v20] <;> rfl)) (fun h => by cases h)) rfl rfl ?_
                  refine o_nil ?_
                  refine w_cond (t := true) (by simp only [ev, envOf, val_set, ofValue, ofCell, ↓reduceIte, Nat.reduceEqDiff, v0, v2, v19, v20] <;> rfl) (fun _ => ?_) (fun h => by cases h)
                  refine w_seq ?_
                  refine w_region ?_
                  refine o_rd (r_assign (by simp only [ev, envOf, val_set, ofValue, ofCell, ↓reduceIte, Nat.reduceEqDiff, v0, v2, v19, v20] <;> rfl)) rfl rfl ?_
                  refine o_nil ?_
                  refine w_ret ⟨.inr rfl, rfl, .bool (false), (show resultA Tryd.prog [.tmp 2] _ = _ by simp only [resultA, resultsA, envOf, val_set, ↓reduceIte, Nat.reduceEqDiff, Option.map_some, v0, v2, v19, v20] <;> rfl), ?_⟩
                  try dsimp only
                  refine ⟨congrArg AV.bool (Eq.symm (decide_eq_false ?_)), E5⟩
                  rintro ⟨h1, h2, h3, h4⟩
                  first | exact absurd (by assumption) h1 | omega | (exact absurd h3 (by assumption)) | (have h5 := h4 i (by assumption); rw [(List.getElem?_eq_some_iff.1 hc0).2] at h5; unfold chP at h5; omega)
            · have hg8 := dec_t hg8
              refine o_rd (r_move (by simp only [ev, envOf, val_set, ofValue, ofCell, ↓reduceIte, Nat.reduceEqDiff, v0, v2, v19, v20] <;> rfl)) rfl ((wanted_of (b := true) rfl rfl rfl (by simp only [val_set, ↓reduceIte, Nat.reduceEqDiff, v0, v2, v19, v20] <;> rfl)).trans rfl) ?_
              refine o_rd (r_le (a := ((c.toNat : Nat) : Int)) (b := 90) (by simp only [ev, envOf, val_set, ofValue, ofCell, ↓reduceIte, Nat.reduceEqDiff, v0, v2, v19, v20] <;> rfl) (by simp only [ev, envOf, val_set, ofValue, ofCell, ↓reduceIte, Nat.reduceEqDiff, v0, v2, v19, v20] <;> rfl)) rfl ((wanted_of (b := true) rfl rfl rfl (by simp only [val_set, ↓reduceIte, Nat.reduceEqDiff, v0, v2, v19, v20] <;> rfl)).trans rfl) ?_
              refine o_rd (r_pick (t := true) (by simp only [ev, envOf, val_set, ofValue, ofCell, ↓reduceIte, Nat.reduceEqDiff, v0, v2, v19, v20] <;> rfl) (fun _ => (by simp only [ev, envOf, val_set, ofValue, ofCell, ↓reduceIte, Nat.reduceEqDiff, v0, v2, v19, v20] <;> rfl)) (fun h => by cases h)) rfl ((wanted_of (b := false) rfl rfl rfl (by simp only [val_set, ↓reduceIte, Nat.reduceEqDiff, v0, v2, v19, v20] <;> rfl)).trans rfl) ?_
              refine o_rd (r_pick (t := false) (by simp only [ev, envOf, val_set, ofValue, ofCell, ↓reduceIte, Nat.reduceEqDiff, v0, v2, v19, v20] <;> rfl) (fun h => by cases h) (fun _ => (by simp only [ev, envOf, val_set, ofValue, ofCell, ↓reduceIte, Nat.reduceEqDiff, v0, v2, v19, v20] <;> rfl))) rfl rfl ?_
              refine o_rd (r_move (by simp only [ev, envOf, val_set, ofValue, ofCell, ↓reduceIte, Nat.reduceEqDiff, v0, v2, v19, v20] <;> rfl)) rfl rfl ?_
              cases hg13 : (decide (((c.toNat : Nat) : Int) ≤ 90) : Bool)
              · have hg13 := dec_f hg13
                refine o_rd (r_move (by simp only [ev, envOf, val_set, ofValue, ofCell, ↓reduceIte, Nat.reduceEqDiff, v0, v2, v19, v20] <;> rfl)) rfl ((wanted_of (b := false) rfl rfl rfl (by simp only [val_set, ↓reduceIte, Nat.reduceEqDiff, v0, v2, v19, v20] <;> rfl)).trans rfl) ?_
                refine o_rd (r_eq (a := ((c.toNat : Nat) : Int)) (b := 95) (by simp only [ev, envOf, val_set, ofValue, ofCell, ↓reduceIte, Nat.reduceEqDiff, v0, v2, v19, v20] <;> rfl) (by simp only [ev, envOf, val_set, ofValue, ofCell, ↓reduceIte, Nat.reduceEqDiff, v0, v2, v19, v20] <;> rfl)) rfl ((wanted_of (b := false) rfl rfl rfl (by simp only [val_set, ↓reduceIte, Nat.reduceEqDiff, v0, v2, v19, v20] <;> rfl)).trans rfl) ?_
                refine o_rd (r_pick (t := false) (by simp only [ev, envOf, val_set, ofValue, ofCell, ↓reduceIte, Nat.reduceEqDiff, v0, v2, v19, v20] <;> rfl) (fun h => by cases h) (fun _ => (by simp only [ev, envOf, val_set, ofValue, ofCell, ↓reduceIte, Nat.reduceEqDiff, v0, v2, v19, v20] <;> rfl))) rfl rfl ?_
                refine o_rd (r_assign (by simp only [ev, envOf, val_set, ofValue, ofCell, ↓reduceIte, Nat.reduceEqDiff, v0, v2, v19, v20] <;> rfl)) rfl rfl ?_
                refine o_nil ?_
                refine w_seq ?_
                refine w_region ?_
                refine o_rd (r_move (by simp only [ev, envOf, val_set, ofValue, ofCell, ↓reduceIte, Nat.reduceEqDiff, v0, v2, v19, v20] <;> rfl)) rfl rfl ?_
                refine o_rd (r_not (by simp only [ev, envOf, val_set, ofValue, ofCell, ↓reduceIte, Nat.reduceEqDiff, v0, v2, v19, v20] <;> rfl)) rfl rfl ?_
                refine o_rd (r_move (by simp only [ev, envOf, val_set, ofValue, ofCell, ↓reduceIte, Nat.reduceEqDiff, v0, v2, v19, v20] <;> rfl)) rfl rfl ?_
                cases hg14 : (!(decide (((c.toNat : Nat) : Int) = 95)) : Bool)
                · have hg14 := dec_t (not_f hg14)
                  refine o_sk rfl ((wanted_of (b := false) rfl rfl rfl (by simp only [val_set, ↓reduceIte, Nat.reduceEqDiff, v0, v2, v19, v20] <;> rfl)).trans rfl) ?_
                  refine o_sk rfl ((wanted_of (b := false) rfl rfl rfl (by simp only [val_set, ↓reduceIte, Nat.reduceEqDiff, v0, v2, v19, v20] <;> rfl)).trans rfl) ?_
                  refine o_sk rfl ((wanted_of (b := false) rfl rfl rfl (by simp only [val_set, ↓reduceIte, Nat.reduceEqDiff, v0, v2, v19, v20] <;> rfl)).trans rfl) ?_
                  refine o_sk rfl (wanted_no rfl rfl rfl (by simp only [val_set, ↓reduceIte, Nat.reduceEqDiff, v0, v2, v19, v20] <;> rfl)) ?_
                  refine o_sk rfl (wanted_no rfl rfl rfl (by simp only [val_set, ↓reduceIte, Nat.reduceEqDiff, v0, v2, v19, v20] <;> rfl)) ?_
                  refine o_sk rfl ((wanted_of (b := false) rfl rfl rfl (by simp only [val_set, ↓reduceIte, Nat.reduceEqDiff, v0, v2, v19, v20] <;> rfl)).trans rfl) ?_
                  refine o_sk rfl ((wanted_of (b := false) rfl rfl rfl (by simp only [val_set, ↓reduceIte, Nat.reduceEqDiff, v0, v2, v19, v20] <;> rfl)).trans rfl) ?_
                  refine o_sk rfl (wanted_no rfl rfl rfl (by simp only [val_set, ↓reduceIte, Nat.reduceEqDiff, v0, v2, v19, v20] <;> rfl)) ?_
                  refine o_sk rfl (wanted_no rfl rfl rfl (by simp only [val_set, ↓reduceIte, Nat.reduceEqDiff, v0, v2, v19, v20] <;> rfl)) ?_
                  refine o_sk rfl ((wanted_of (b := false) rfl rfl rfl (by simp only [val_set, ↓reduceIte, Nat.reduceEqDiff, v0, v2, v19, v20] <;> rfl)).trans rfl) ?_
                  refine o_rd (r_pick (t := false) (by simp only [ev, envOf, val_set, ofValue, ofCell, ↓reduceIte, Nat.reduceEqDiff, v0, v2, v19, v20] <;> rfl) (fun h => by cases h) (fun _ => (by simp only [ev, envOf, val_set, ofValue, ofCell, ↓reduceIte, Nat.reduceEqDiff, v0, v2, v19, v20] <;> rfl))) rfl rfl ?_
                  refine o_nil ?_
                  refine w_cond (t := false) (by simp only [ev, envOf, val_set, ofValue, ofCell, ↓reduceIte, Nat.reduceEqDiff, v0, v2, v19, v20] <;> rfl) (fun h => by cases h) (fun _ => ?_)
                  refine w_skip ?_
                  refine w_region ?_
                  refine o_rd (r_addE (a := ((i : Nat) : Int)) (b := 1) (c := ((i + 1 : Nat) : Int)) (by simp only [ev, envOf, val_set, ofValue, ofCell, ↓reduceIte, Nat.reduceEqDiff, v0, v2, v19, v20] <;> rfl) (by simp only [ev, envOf, val_set, ofValue, ofCell, ↓reduceIte, Nat.reduceEqDiff, v0, v2, v19, v20] <;> rfl) (by omega) (by omega) (by omega)) rfl rfl ?_
                  refine o_rd (r_move (by simp only [ev, envOf, val_set, ofValue, ofCell, ↓reduceIte, Nat.reduceEqDiff, v0, v2, v19, v20] <;> rfl)) rfl rfl ?_
                  refine o_nil ?_
                  exact ⟨m - 1, (by omega), _, H5, i + 1, rfl, (by simp only [val_set, ↓reduceIte, Nat.reduceEqDiff, v0, v2, v19, v20] <;> rfl), (by simp only [val_set, ↓reduceIte, Nat.reduceEqDiff, v0, v2, v19, v20] <;> rfl), (by simp only [val_set, ↓reduceIte, Nat.reduceEqDiff, v0, v2, v19, v20] <;> rfl), (by simp only [val_set, ↓reduceIte, Nat.reduceEqDiff, v0, v2, v19, v20] <;> rfl), W5, E5, (fun j h hj => by rcases Nat.lt_succ_iff_lt_or_eq.1 hj with h2 | h2 <;> first | exact hok j h h2 | (subst h2; rw [(List.getElem?_eq_some_iff.1 hc0).2]; unfold chP; omega)), (by omega)⟩
                · have hg14 := dec_f (not_t hg14)
                  refine o_rd (r_move (by simp only [ev, envOf, val_set, ofValue, ofCell, ↓reduceIte, Nat.reduceEqDiff, v0, v2, v19, v20] <;> rfl)) rfl ((wanted_of (b := true) rfl rfl rfl (by simp only [val_set, ↓reduceIte, Nat.reduceEqDiff, v0, v2, v19, v20] <;> rfl)).trans rfl) ?_
                  refine o_rd (r_eq (a := ((i : Nat) : Int)) (b := 0) (by simp only [ev, envOf, val_set, ofValue, ofCell, ↓reduceIte, Nat.reduceEqDiff, v0, v2, v19, v20] <;> rfl) (by simp only [ev, envOf, val_set, ofValue, ofCell, ↓reduceIte, Nat.reduceEqDiff, v0, v2, v19, v20] <;> rfl)) rfl ((wanted_of (b := true) rfl rfl rfl (by simp only [val_set, ↓reduceIte, Nat.reduceEqDiff, v0, v2, v19, v20] <;> rfl)).trans rfl) ?_
                  refine o_rd (r_move (by simp only [ev, envOf, val_set, ofValue, ofCell, ↓reduceIte, Nat.reduceEqDiff, v0, v2, v19, v20] <;> rfl)) rfl ((wanted_of (b := true) rfl rfl rfl (by simp only [val_set, ↓reduceIte, Nat.reduceEqDiff, v0, v2, v19, v20] <;> rfl)).trans rfl) ?_
                  cases hg15 : (decide (((i : Nat) : Int) = 0) : Bool)
                  · have hg15 := dec_f hg15
                    refine o_rd (r_move (by simp only [ev, envOf, val_set, ofValue, ofCell, ↓reduceIte, Nat.reduceEqDiff, v0, v2, v19, v20] <;> rfl)) rfl ((wanted_of (b := false) rfl rfl rfl (by simp only [val_set, ↓reduceIte, Nat.reduceEqDiff, v0, v2, v19, v20] <;> rfl)).trans rfl) ?_
                    refine o_rd (r_lt (a := ((c.toNat : Nat) : Int)) (b := 48) (by simp only [ev, envOf, val_set, ofValue, ofCell, ↓reduceIte, Nat.reduceEqDiff, v0, v2, v19, v20] <;> rfl) (by simp only [ev, envOf, val_set, ofValue, ofCell, ↓reduceIte, Nat.reduceEqDiff, v0, v2, v19, v20] <;> rfl)) rfl ((wanted_of (b := false) rfl rfl rfl (by simp only [val_set, ↓reduceIte, Nat.reduceEqDiff, v0, v2, v19, v20] <;> rfl)).trans rfl) ?_
                    refine o_rd (r_pick (t := false) (by simp only [ev, envOf, val_set, ofValue, ofCell, ↓reduceIte, Nat.reduceEqDiff, v0, v2, v19, v20] <;> rfl) (fun h => by cases h) (fun _ => (by simp only [ev, envOf, val_set, ofValue, ofCell, ↓reduceIte, Nat.reduceEqDiff, v0, v2, v19, v20] <;> rfl))) rfl ((wanted_of (b := true) rfl rfl rfl (by simp only [val_set, ↓reduceIte, Nat.reduceEqDiff, v0, v2, v19, v20] <;> rfl)).trans rfl) ?_
                    refine o_rd (r_move (by simp only [ev, envOf, val_set, ofValue, ofCell, ↓reduceIte, Nat.reduceEqDiff, v0, v2, v19, v20] <;> rfl)) rfl ((wanted_of (b := true) rfl rfl rfl (by simp only [val_set, ↓reduceIte, Nat.reduceEqDiff, v0, v2, v19, v20] <;> rfl)).trans rfl) ?_
                    cases hg16 : (decide (((c.toNat : Nat) : Int) < 48) : Bool)
                    · have hg16 := dec_f hg16
                      refine o_rd (r_move (by simp only [ev, envOf, val_set, ofValue, ofCell, ↓reduceIte, Nat.reduceEqDiff, v0, v2, v19, v20] <;> rfl)) rfl ((wanted_of (b := false) rfl rfl rfl (by simp only [val_set, ↓reduceIte, Nat.reduceEqDiff, v0, v2, v19, v20] <;> rfl)).trans rfl) ?_
                      refine o_rd (r_gt (a := ((c.toNat : Nat) : Int)) (b := 57) (by simp only [ev, envOf, val_set, ofValue, ofCell, ↓reduceIte, Nat.reduceEqDiff, v0, v2, v19, v20] <;> rfl) (by simp only [ev, envOf, val_set, ofValue, ofCell, ↓reduceIte, Nat.reduceEqDiff, v0, v2, v19, v20] <;> rfl)) rfl ((wanted_of (b := false) rfl rfl rfl (by simp only [val_set, ↓reduceIte, Nat.reduceEqDiff, v0, v2, v19, v20] <;> rfl)).trans rfl) ?_
                      refine o_rd (r_pick (t := false) (by simp only [ev, envOf, val_set, ofValue, ofCell, ↓reduceIte, Nat.reduceEqDiff, v0, v2, v19, v20] <;> rfl) (fun h => by cases h) (fun _ => (by simp only [ev, envOf, val_set, ofValue, ofCell, ↓reduceIte, Nat.reduceEqDiff, v0, v2, v19, v20] <;> rfl))) rfl ((wanted_of (b := true) rfl rfl rfl (by simp only [val_set, ↓reduceIte, Nat.reduceEqDiff, v0, v2, v19, v20] <;> rfl)).trans rfl) ?_
                      refine o_rd (r_pick (t := true) (by simp only [ev, envOf, val_set, ofValue, ofCell, ↓reduceIte, Nat.reduceEqDiff, v0, v2, v19, v20] <;> rfl) (fun _ => (by simp only [ev, envOf, val_set, ofValue, ofCell, ↓reduceIte, Nat.reduceEqDiff, v0, v2, v19, v20] <;> rfl)) (fun h => by cases h)) rfl rfl ?_
                      refine o_nil ?_
                      refine w_cond (by simp only [ev, envOf, val_set, ofValue, ofCell, ↓reduceIte, Nat.reduceEqDiff, v0, v2, v19, v20] <;> rfl) (fun hB17 => ?_) (fun hB17 => ?_)
                      · have hc17 := dec_t hB17
                        refine w_seq ?_
                        refine w_region ?_
                        refine o_rd (r_assign (by simp only [ev, envOf, val_set, ofValue, ofCell, ↓reduceIte, Nat.reduceEqDiff, v0, v2, v19, v20] <;> rfl)) rfl rfl ?_
                        refine o_nil ?_
                        refine w_ret ⟨.inr rfl, rfl, .bool (false), (show resultA Tryd.prog [.tmp 2] _ = _ by simp only [resultA, resultsA, envOf, val_set, ↓reduceIte, Nat.reduceEqDiff, Option.map_some, v0, v2, v19, v20] <;> rfl), ?_⟩
                        try dsimp only
                        refine ⟨congrArg AV.bool (Eq.symm (decide_eq_false ?_)), E5⟩
                        rintro ⟨h1, h2, h3, h4⟩
                        first | exact absurd (by assumption) h1 | omega | (exact absurd h3 (by assumption)) | (have h5 := h4 i (by assumption); rw [(List.getElem?_eq_some_iff.1 hc0).2] at h5; unfold chP at h5; omega)
                      · have hc17 := dec_f hB17
                        refine w_skip ?_
                        refine w_region ?_
                        refine o_rd (r_addE (a := ((i : Nat) : Int)) (b := 1) (c := ((i + 1 : Nat) : Int)) (by simp only [ev, envOf, val_set, ofValue, ofCell, ↓reduceIte, Nat.reduceEqDiff, v0, v2, v19, v20] <;> rfl) (by simp only [ev, envOf, val_set, ofValue, ofCell, ↓reduceIte, Nat.reduceEqDiff, v0, v2, v19, v20] <;> rfl) (by omega) (by omega) (by omega)) rfl rfl ?_
                        refine o_rd (r_move (by simp only [ev, envOf, val_set, ofValue, ofCell, ↓reduceIte, Nat.reduceEqDiff, v0, v2, v19, v20] <;> rfl)) rfl rfl ?_
                        refine o_nil ?_
                        exact ⟨m - 1, (by omega), _, H5, i + 1, rfl, (by simp only [val_set, ↓reduceIte, Nat.reduceEqDiff, v0, v2, v19, v20] <;> rfl), (by simp only [val_set, ↓reduceIte, Nat.reduceEqDiff, v0, v2, v19, v20] <;> rfl), (by simp only [val_set, ↓reduceIte, Nat.reduceEqDiff, v0, v2, v19, v20] <;> rfl), (by simp only [val_set, ↓reduceIte, Nat.reduceEqDiff, v0, v2, v19, v20] <;> rfl), W5, E5, (fun j h hj => by rcases Nat.lt_succ_iff_lt_or_eq.1 hj with h2 | h2 <;> first | exact hok j h h2 | (subst h2; rw [(List.getElem?_eq_some_iff.1 hc0).2]; unfold chP; omega)), (by omega)⟩
                    · have hg16 := dec_t hg16
                      refine o_sk rfl ((wanted_of (b := true) rfl rfl rfl (by simp only [val_set, ↓reduceIte, Nat.reduceEqDiff, v0, v2, v19, v20] <;> rfl)).trans rfl) ?_
                      refine o_sk rfl ((wanted_of (b := true) rfl rfl rfl (by simp only [val_set, ↓reduceIte, Nat.reduceEqDiff, v0, v2, v19, v20] <;> rfl)).trans rfl) ?_
                      refine o_rd (r_pick (t := true) (by simp only [ev, envOf, val_set, ofValue, ofCell, ↓reduceIte, Nat.reduceEqDiff, v0, v2, v19, v20] <;> rfl) (fun _ => (by simp only [ev, envOf, val_set, ofValue, ofCell, ↓reduceIte, Nat.reduceEqDiff, v0, v2, v19, v20] <;> rfl)) (fun h => by cases h)) rfl ((wanted_of (b := true) rfl rfl rfl (by simp only [val_set, ↓reduceIte, Nat.reduceEqDiff, v0, v2, v19, v20] <;> rfl)).trans rfl) ?_
                      refine o_rd (r_pick (t := true) (by simp only [ev, envOf, val_set, ofValue, ofCell, ↓reduceIte, Nat.reduceEqDiff, v0, v2, v19, v20] <;> rfl) (fun _ => (by simp only [ev, envOf, val_set, ofValue, ofCell, ↓reduceIte, Nat.reduceEqDiff, v0, v2, v19, v20] <;> rfl)) (fun h => by cases h)) rfl rfl ?_
                      refine o_nil ?_
                      refine w_cond (t := true) (by simp only [ev, envOf, val_set, ofValue, ofCell, ↓reduceIte, Nat.reduceEqDiff, v0, v2, v19, v20] <;> rfl) (fun _ => ?_) (fun h => by cases h)
                      refine w_seq ?_
                      refine w_region ?_
                      refine o_rd (r_assign (by simp only [ev, envOf, val_set, ofValue, ofCell, ↓reduceIte, Nat.reduceEqDiff, v0, v2, v19, v20] <;> rfl)) rfl rfl ?_
                      refine o_nil ?_
                      refine w_ret ⟨.inr rfl, rfl, .bool (false), (show resultA Tryd.prog [.tmp 2] _ = _ by simp only [resultA, resultsA, envOf, val_set, ↓reduceIte, Nat.reduceEqDiff, Option.map_some, v0, v2, v19, v20] <;> rfl), ?_⟩
                      try dsimp only
                      refine ⟨congrArg AV.bool (Eq.symm (decide_eq_false ?_)), E5⟩
                      rintro ⟨h1, h2, h3, h4⟩
                      first | exact absurd (by assumption) h1 | omega | (exact absurd h3 (by assumption)) | (have h5 := h4 i (by assumption); rw [(List.getElem?_eq_some_iff.1 hc0).2] at h5; unfold chP at h5; omega)
                  · have hg15 := dec_t hg15
                    refine o_sk rfl ((wanted_of (b := true) rfl rfl rfl (by simp only [val_set, ↓reduceIte, Nat.reduceEqDiff, v0, v2, v19, v20] <;> rfl)).trans rfl) ?_
                    refine o_sk rfl ((wanted_of (b := true) rfl rfl rfl (by simp only [val_set, ↓reduceIte, Nat.reduceEqDiff, v0, v2, v19, v20] <;> rfl)).trans rfl) ?_
                    refine o_rd (r_pick (t := true) (by simp only [ev, envOf, val_set, ofValue, ofCell, ↓reduceIte, Nat.reduceEqDiff, v0, v2, v19, v20] <;> rfl) (fun _ => (by simp only [ev, envOf, val_set, ofValue, ofCell, ↓reduceIte, Nat.reduceEqDiff, v0, v2, v19, v20] <;> rfl)) (fun h => by cases h)) rfl ((wanted_of (b := true) rfl rfl rfl (by simp only [val_set, ↓reduceIte, Nat.reduceEqDiff, v0, v2, v19, v20] <;> rfl)).trans rfl) ?_
                    refine o_rd (r_move (by simp only [ev, envOf, val_set, ofValue, ofCell, ↓reduceIte, Nat.reduceEqDiff, v0, v2, v19, v20] <;> rfl)) rfl ((wanted_of (b := true) rfl rfl rfl (by simp only [val_set, ↓reduceIte, Nat.reduceEqDiff, v0, v2, v19, v20] <;> rfl)).trans rfl) ?_
                    refine o_sk rfl ((wanted_of (b := true) rfl rfl rfl (by simp only [val_set, ↓reduceIte, Nat.reduceEqDiff, v0, v2, v19, v20] <;> rfl)).trans rfl) ?_
                    refine o_sk rfl ((wanted_of (b := true) rfl rfl rfl (by simp only [val_set, ↓reduceIte, Nat.reduceEqDiff, v0, v2, v19, v20] <;> rfl)).trans rfl) ?_
                    refine o_rd (r_pick (t := true) (by simp only [ev, envOf, val_set, ofValue, ofCell, ↓reduceIte, Nat.reduceEqDiff, v0, v2, v19, v20] <;> rfl) (fun _ => (by simp only [ev, envOf, val_set, ofValue, ofCell, ↓reduceIte, Nat.reduceEqDiff, v0, v2, v19, v20] <;> rfl)) (fun h => by cases h)) rfl ((wanted_of (b := true) rfl rfl rfl (by simp only [val_set, ↓reduceIte, Nat.reduceEqDiff, v0, v2, v19, v20] <;> rfl)).trans rfl) ?_
                    refine o_rd (r_pick (t := true) (by simp only [ev, envOf, val_set, ofValue, ofCell, ↓reduceIte, Nat.reduceEqDiff, v0, v2, v19, v20] <;> rfl) (fun _ => (by simp only [ev, envOf, val_set, ofValue, ofCell, ↓reduceIte, Nat.reduceEqDiff, v0, v2, v19, v20] <;> rfl)) (fun h => by cases h)) rfl rfl ?_
                    refine o_nil ?_
                    refine w_cond (t := true) (by simp only [ev, envOf, val_set, ofValue, ofCell, ↓reduceIte, Nat.reduceEqDiff, v0, v2, v19, v20] <;> rfl) (fun _ => ?_) (fun h => by cases h)
                    refine w_seq ?_
                    refine w_region ?_
                    refine o_rd (r_assign (by simp only [ev, envOf, val_set, ofValue, ofCell, ↓reduceIte, Nat.reduceEqDiff, v0, v2, v19, v20] <;> rfl)) rfl rfl ?_
                    refine o_nil ?_
                    refine w_ret ⟨.inr rfl, rfl, .bool (false), (show resultA Tryd.prog [.tmp 2] _ = _ by simp only [resultA, resultsA, envOf, val_set, ↓reduceIte, Nat.reduceEqDiff, Option.map_some, v0, v2, v19, v20] <;> rfl), ?_⟩
                    try dsimp only
                    refine ⟨congrArg AV.bool (Eq.symm (decide_eq_false ?_)), E5⟩
                    rintro ⟨h1, h2, h3, h4⟩
                    first | exact absurd (by assumption) h1 | omega | (exact absurd h3 (by assumption)) | (have h5 := h4 i (by assumption); rw [(List.getElem?_eq_some_iff.1 hc0).2] at h5; unfold chP at h5; omega)
              · have hg13 := dec_t hg13
                refine o_sk rfl ((wanted_of (b := true) rfl rfl rfl (by simp only [val_set, ↓reduceIte, Nat.reduceEqDiff, v0, v2, v19, v20] <;> rfl)).trans rfl) ?_
                refine o_sk rfl ((wanted_of (b := true) rfl rfl rfl (by simp only [val_set, ↓reduceIte, Nat.reduceEqDiff, v0, v2, v19, v20] <;> rfl)).trans rfl) ?_
                refine o_rd (r_pick (t := true) (by simp only [ev, envOf, val_set, ofValue, ofCell, ↓reduceIte, Nat.reduceEqDiff, v0, v2, v19, v20] <;> rfl) (fun _ => (by simp only [ev, envOf, val_set, ofValue, ofCell, ↓reduceIte, Nat.reduceEqDiff, v0, v2, v19, v20] <;> rfl)) (fun h => by cases h)) rfl rfl ?_
                refine o_rd (r_assign (by simp only [ev, envOf, val_set, ofValue, ofCell, ↓reduceIte, Nat.reduceEqDiff, v0, v2, v19, v20] <;> rfl)) rfl rfl ?_
                refine o_nil ?_
                refine w_seq ?_
                refine w_region ?_
                refine o_rd (r_move (by simp only [ev, envOf, val_set, ofValue, ofCell, ↓reduceIte, Nat.reduceEqDiff, v0, v2, v19, v20] <;> rfl)) rfl rfl ?_
                refine o_rd (r_not (by simp only [ev, envOf, val_set, ofValue, ofCell, ↓reduceIte, Nat.reduceEqDiff, v0, v2, v19, v20] <;> rfl)) rfl rfl ?_
                refine o_rd (r_move (by simp only [ev, envOf, val_set, ofValue, ofCell, ↓reduceIte, Nat.reduceEqDiff, v0, v2, v19, v20] <;> rfl)) rfl rfl ?_
                refine o_sk rfl ((wanted_of (b := false) rfl rfl rfl (by simp only [val_set, ↓reduceIte, Nat.reduceEqDiff, v0, v2, v19, v20] <;> rfl)).trans rfl) ?_
                refine o_sk rfl ((wanted_of (b := false) rfl rfl rfl (by simp only [val_set, ↓reduceIte, Nat.reduceEqDiff, v0, v2, v19, v20] <;> rfl)).trans rfl) ?_
                refine o_sk rfl ((wanted_of (b := false) rfl rfl rfl (by simp only [val_set, ↓reduceIte, Nat.reduceEqDiff, v0, v2, v19, v20] <;> rfl)).trans rfl) ?_
                refine o_sk rfl (wanted_no rfl rfl rfl (by simp only [val_set, ↓reduceIte, Nat.reduceEqDiff, v0, v2, v19, v20] <;> rfl)) ?_
                refine o_sk rfl (wanted_no rfl rfl rfl (by simp only [val_set, ↓reduceIte, Nat.reduceEqDiff, v0, v2, v19, v20] <;> rfl)) ?_
                refine o_sk rfl ((wanted_of (b := false) rfl rfl rfl (by simp only [val_set, ↓reduceIte, Nat.reduceEqDiff, v0, v2, v19, v20] <;> rfl)).trans rfl) ?_
                refine o_sk rfl ((wanted_of (b := false) rfl rfl rfl (by simp only [val_set, ↓reduceIte, Nat.reduceEqDiff, v0, v2, v19, v20] <;> rfl)).trans rfl) ?_
                refine o_sk rfl (wanted_no rfl rfl rfl (by simp only [val_set, ↓reduceIte, Nat.reduceEqDiff, v0, v2, v19, v20] <;> rfl)) ?_
                refine o_sk rfl (wanted_no rfl rfl rfl (by simp only [val_set, ↓reduceIte, Nat.reduceEqDiff, v0, v2, v19, v20] <;> rfl)) ?_
                refine o_sk rfl ((wanted_of (b := false) rfl rfl rfl (by simp only [val_set, ↓reduceIte, Nat.reduceEqDiff, v0, v2, v19, v20] <;> rfl)).trans rfl) ?_
                refine o_rd (r_pick (t := false) (by simp only [ev, envOf, val_set, ofValue, ofCell, ↓reduceIte, Nat.reduceEqDiff, v0, v2, v19, v20] <;> rfl) (fun h => by cases h) (fun _ => (by simp only [ev, envOf, val_set, ofValue, ofCell, ↓reduceIte, Nat.reduceEqDiff, v0, v2, v19, v20] <;> rfl))) rfl rfl ?_
                refine o_nil ?_
                refine w_cond (t := false) (by simp only [ev, envOf, val_set, ofValue, ofCell, ↓reduceIte, Nat.reduceEqDiff, v0, v2, v19, v20] <;> rfl) (fun h => by cases h) (fun _ => ?_)
                refine w_skip ?_
                refine w_region ?_
                refine o_rd (r_addE (a := ((i : Nat) : Int)) (b := 1) (c := ((i + 1 : Nat) : Int)) (by simp only [ev, envOf, val_set, ofValue, ofCell, ↓reduceIte, Nat.reduceEqDiff, v0, v2, v19, v20] <;> rfl) (by simp only [ev, envOf, val_set, ofValue, ofCell, ↓reduceIte, Nat.reduceEqDiff, v0, v2, v19, v20] <;> rfl) (by omega) (by omega) (by omega)) rfl rfl ?_
                refine o_rd (r_move (by simp only [ev, envOf, val_set, ofValue, ofCell, ↓reduceIte, Nat.reduceEqDiff, v0, v2, v19, v20] <;> rfl)) rfl rfl ?_
                refine o_nil ?_
                exact ⟨m - 1, (by omega), _, H5, i + 1, rfl, (by simp only [val_set, ↓reduceIte, Nat.reduceEqDiff, v0, v2, v19, v20] <;> rfl), (by simp only [val_set, ↓reduceIte, Nat.reduceEqDiff, v0, v2, v19, v20] <;> rfl), (by simp only [val_set, ↓reduceIte, Nat.reduceEqDiff, v0, v2, v19, v20] <;> rfl), (by simp only [val_set, ↓reduceIte, Nat.reduceEqDiff, v0, v2, v19, v20] <;> rfl), W5, E5, (fun j h hj => by rcases Nat.lt_succ_iff_lt_or_eq.1 hj with h2 | h2 <;> first | exact hok j h h2 | (subst h2; rw [(List.getElem?_eq_some_iff.1 hc0).2]; unfold chP; omega)), (by omega)⟩
          · have hg7 := dec_t hg7
            refine o_rd (r_move (by simp only [ev, envOf, val_set, ofValue, ofCell, ↓reduceIte, Nat.reduceEqDiff, v0, v2, v19, v20] <;> rfl)) rfl ((wanted_of (b := true) rfl rfl rfl (by simp only [val_set, ↓reduceIte, Nat.reduceEqDiff, v0, v2, v19, v20] <;> rfl)).trans rfl) ?_
            refine o_rd (r_le (a := ((c.toNat : Nat) : Int)) (b := 122) (by simp only [ev, envOf, val_set, ofValue, ofCell, ↓reduceIte, Nat.reduceEqDiff, v0, v2, v19, v20] <;> rfl) (by simp only [ev, envOf, val_set, ofValue, ofCell, ↓reduceIte, Nat.reduceEqDiff, v0, v2, v19, v20] <;> rfl)) rfl ((wanted_of (b := true) rfl rfl rfl (by simp only [val_set, ↓reduceIte, Nat.reduceEqDiff, v0, v2, v19, v20] <;> rfl)).trans rfl) ?_
            refine o_rd (r_pick (t := true) (by simp only [ev, envOf, val_set, ofValue, ofCell, ↓reduceIte, Nat.reduceEqDiff, v0, v2, v19, v20] <;> rfl) (fun _ => (by simp only [ev, envOf, val_set, ofValue, ofCell, ↓reduceIte, Nat.reduceEqDiff, v0, v2, v19, v20] <;> rfl)) (fun h => by cases h)) rfl rfl ?_
            refine o_rd (r_move (by simp only [ev, envOf, val_set, ofValue, ofCell, ↓reduceIte, Nat.reduceEqDiff, v0, v2, v19, v20] <;> rfl)) rfl rfl ?_
            cases hg18 : (decide (((c.toNat : Nat) : Int) ≤ 122) : Bool)
            · have hg18 := dec_f hg18
              refine o_rd (r_move (by simp only [ev, envOf, val_set, ofValue, ofCell, ↓reduceIte, Nat.reduceEqDiff, v0, v2, v19, v20] <;> rfl)) rfl ((wanted_of (b := false) rfl rfl rfl (by simp only [val_set, ↓reduceIte, Nat.reduceEqDiff, v0, v2, v19, v20] <;> rfl)).trans rfl) ?_
              refine o_rd (r_ge (a := ((c.toNat : Nat) : Int)) (b := 65) (by simp only [ev, envOf, val_set, ofValue, ofCell, ↓reduceIte, Nat.reduceEqDiff, v0, v2, v19, v20] <;> rfl) (by simp only [ev, envOf, val_set, ofValue, ofCell, ↓reduceIte, Nat.reduceEqDiff, v0, v2, v19, v20] <;> rfl)) rfl ((wanted_of (b := false) rfl rfl rfl (by simp only [val_set, ↓reduceIte, Nat.reduceEqDiff, v0, v2, v19, v20] <;> rfl)).trans rfl) ?_
              refine o_rd (r_move (by simp only [ev, envOf, val_set, ofValue, ofCell, ↓reduceIte, Nat.reduceEqDiff, v0, v2, v19, v20] <;> rfl)) rfl ((wanted_of (b := false) rfl rfl rfl (by simp only [val_set, ↓reduceIte, Nat.reduceEqDiff, v0, v2, v19, v20] <;> rfl)).trans rfl) ?_
              cases hg19 : (decide (65 ≤ ((c.toNat : Nat) : Int)) : Bool)
              · have hg19 := dec_f hg19
                refine o_sk rfl ((wanted_of (b := false) rfl rfl rfl (by simp only [val_set, ↓reduceIte, Nat.reduceEqDiff, v0, v2, v19, v20] <;> rfl)).trans rfl) ?_
                refine o_sk rfl ((wanted_of (b := false) rfl rfl rfl (by simp only [val_set, ↓reduceIte, Nat.reduceEqDiff, v0, v2, v19, v20] <;> rfl)).trans rfl) ?_
                refine o_rd (r_pick (t := false) (by simp only [ev, envOf, val_set, ofValue, ofCell, ↓reduceIte, Nat.reduceEqDiff, v0, v2, v19, v20] <;> rfl) (fun h => by cases h) (fun _ => (by simp only [ev, envOf, val_set, ofValue, ofCell, ↓reduceIte, Nat.reduceEqDiff, v0, v2, v19, v20] <;> rfl))) rfl ((wanted_of (b := false) rfl rfl rfl (by simp only [val_set, ↓reduceIte, Nat.reduceEqDiff, v0, v2, v19, v20] <;> rfl)).trans rfl) ?_
                refine o_rd (r_pick (t := false) (by simp only [ev, envOf, val_set, ofValue, ofCell, ↓reduceIte, Nat.reduceEqDiff, v0, v2, v19, v20] <;> rfl) (fun h => by cases h) (fun _ => (by simp only [ev, envOf, val_set, ofValue, ofCell, ↓reduceIte, Nat.reduceEqDiff, v0, v2, v19, v20] <;> rfl))) rfl rfl ?_
                refine o_rd (r_move (by simp only [ev, envOf, val_set, ofValue, ofCell, ↓reduceIte, Nat.reduceEqDiff, v0, v2, v19, v20] <;> rfl)) rfl rfl ?_
                refine o_rd (r_move (by simp only [ev, envOf, val_set, ofValue, ofCell, ↓reduceIte, Nat.reduceEqDiff, v0, v2, v19, v20] <;> rfl)) rfl ((wanted_of (b := false) rfl rfl rfl (by simp only [val_set, ↓reduceIte, Nat.reduceEqDiff, v0, v2, v19, v20] <;> rfl)).trans rfl) ?_
                refine o_rd (r_eq (a := ((c.toNat : Nat) : Int)) (b := 95) (by simp only [ev, envOf, val_set, ofValue, ofCell, ↓reduceIte, Nat.reduceEqDiff, v0, v2, v19, v20] <;> rfl) (by simp only [ev, envOf, val_set, ofValue, ofCell, ↓reduceIte, Nat.reduceEqDiff, v0, v2, v19, v20] <;> rfl)) rfl ((wanted_of (b := false) rfl rfl rfl (by simp only [val_set, ↓reduceIte, Nat.reduceEqDiff, v0, v2, v19, v20] <;> rfl)).trans rfl) ?_
                refine o_rd (r_pick (t := false) (by simp only [ev, envOf, val_set, ofValue, ofCell, ↓reduceIte, Nat.reduceEqDiff, v0, v2, v19, v20] <;> rfl) (fun h => by cases h) (fun _ => (by simp only [ev, envOf, val_set, ofValue, ofCell, ↓reduceIte, Nat.reduceEqDiff, v0, v2, v19, v20] <;> rfl))) rfl rfl ?_
                refine o_rd (r_assign (by simp only [ev, envOf, val_set, ofValue, ofCell, ↓reduceIte, Nat.reduceEqDiff, v0, v2, v19, v20] <;> rfl)) rfl rfl ?_
                refine o_nil ?_
                refine w_seq ?_
                refine w_region ?_
                refine o_rd (r_move (by simp only [ev, envOf, val_set, ofValue, ofCell, ↓reduceIte, Nat.reduceEqDiff, v0, v2, v19, v20] <;> rfl)) rfl rfl ?_
                refine o_rd (r_not (by simp only [ev, envOf, val_set, ofValue, ofCell, ↓reduceIte, Nat.reduceEqDiff, v0, v2, v19, v20] <;> rfl)) rfl rfl ?_
                refine o_rd (r_move (by simp only [ev, envOf, val_set, ofValue, ofCell, ↓reduceIte, Nat.reduceEqDiff, v0, v2, v19, v20] <;> rfl)) rfl rfl ?_
                cases hg20 : (!(decide (((c.toNat : Nat) : Int) = 95)) : Bool)
                · have hg20 := dec_t (not_f hg20)
                  refine o_sk rfl ((wanted_of (b := false) rfl rfl rfl (by simp only [val_set, ↓reduceIte, Nat.reduceEqDiff, v0, v2, v19, v20] <;> rfl)).trans rfl) ?_
                  refine o_sk rfl ((wanted_of (b := false) rfl rfl rfl (by simp only [val_set, ↓reduceIte, Nat.reduceEqDiff, v0, v2, v19, v20] <;> rfl)).trans rfl) ?_
                  refine o_sk rfl ((wanted_of (b := false) rfl rfl rfl (by simp only [val_set, ↓reduceIte, Nat.reduceEqDiff, v0, v2, v19, v20] <;> rfl)).trans rfl) ?_
                  refine o_sk rfl (wanted_no rfl rfl rfl (by simp only [val_set, ↓reduceIte, Nat.reduceEqDiff, v0, v2, v19, v20] <;> rfl)) ?_
                  refine o_sk rfl (wanted_no rfl rfl rfl (by simp only [val_set, ↓reduceIte, Nat.reduceEqDiff, v0, v2, v19, v20] <;> rfl)) ?_
                  refine o_sk rfl ((wanted_of (b := false) rfl rfl rfl (by simp only [val_set, ↓reduceIte, Nat.reduceEqDiff, v0, v2, v19, v20] <;> rfl)).trans rfl) ?_
                  refine o_sk rfl ((wanted_of (b := false) rfl rfl rfl (by simp only [val_set, ↓reduceIte, Nat.reduceEqDiff, v0, v2, v19, v20] <;> rfl)).trans rfl) ?_
                  refine o_sk rfl (wanted_no rfl rfl rfl (by simp only [val_set, ↓reduceIte, Nat.reduceEqDiff, v0, v2, v19, v20] <;> rfl)) ?_
                  refine o_sk rfl (wanted_no rfl rfl rfl (by simp only [val_set, ↓reduceIte, Nat.reduceEqDiff, v0, v2, v19, v20] <;> rfl)) ?_
                  refine o_sk rfl ((wanted_of (b := false) rfl rfl rfl (by simp only [val_set, ↓reduceIte, Nat.reduceEqDiff, v0, v2, v19, v20] <;> rfl)).trans rfl) ?_
                  refine o_rd (r_pick (t := false) (by simp only [ev, envOf, val_set, ofValue, ofCell, ↓reduceIte, Nat.reduceEqDiff, v0, v2, v19, v20] <;> rfl) (fun h => by cases h) (fun _ => (by simp only [ev, envOf, val_set, ofValue, ofCell, ↓reduceIte, Nat.reduceEqDiff, v0, v2, v19, v20] <;> rfl))) rfl rfl ?_
                  refine o_nil ?_
                  refine w_cond (t := false) (by simp only [ev, envOf, val_set, ofValue, ofCell, ↓reduceIte, Nat.reduceEqDiff, v0, v2, v19, v20] <;> rfl) (fun h => by cases h) (fun _ => ?_)
                  refine w_skip ?_
                  refine w_region ?_
                  refine o_rd (r_addE (a := ((i : Nat) : Int)) (b := 1) (c := ((i + 1 : Nat) : Int)) (by simp only [ev, envOf, val_set, ofValue, ofCell, ↓reduceIte, Nat.reduceEqDiff, v0, v2, v19, v20] <;> rfl) (by simp only [ev, envOf, val_set, ofValue, ofCell, ↓reduceIte, Nat.reduceEqDiff, v0, v2, v19, v20] <;> rfl) (by omega) (by omega) (by omega)) rfl rfl ?_
                  refine o_rd (r_move (by simp only [ev, envOf, val_set, ofValue, ofCell, ↓reduceIte, Nat.reduceEqDiff, v0, v2, v19, v20] <;> rfl)) rfl rfl ?_
                  refine o_nil ?_
                  exact ⟨m - 1, (by omega), _, H5, i + 1, rfl, (by simp only [val_set, ↓reduceIte, Nat.reduceEqDiff, v0, v2, v19, v20] <;> rfl), (by simp only [val_set, ↓reduceIte, Nat.reduceEqDiff, v0, v2, v19, v20] <;> rfl), (by simp only [val_set, ↓reduceIte, Nat.reduceEqDiff, v0, v2, v19, v20] <;> rfl), (by simp only [val_set, ↓reduceIte, Nat.reduceEqDiff, v0, v2, v19, v20] <;> rfl), W5, E5, (fun j h hj => by rcases Nat.lt_succ_iff_lt_or_eq.1 hj with h2 | h2 <;> first | exact hok j h h2 | (subst h2; rw [(List.getElem?_eq_some_iff.1 hc0).2]; unfold chP; omega)), (by omega)⟩
                · have hg20 := dec_f (not_t hg20)
                  refine o_rd (r_move (by simp only [ev, envOf, val_set, ofValue, ofCell, ↓reduceIte, Nat.reduceEqDiff, v0, v2, v19, v20] <;> rfl)) rfl ((wanted_of (b := true) rfl rfl rfl (by simp only [val_set, ↓reduceIte, Nat.reduceEqDiff, v0, v2, v19, v20] <;> rfl)).trans rfl) ?_
                  refine o_rd (r_eq (a := ((i : Nat) : Int)) (b := 0) (by simp only [ev, envOf, val_set, ofValue, ofCell, ↓reduceIte, Nat.reduceEqDiff, v0, v2, v19, v20] <;> rfl) (by simp only [ev, envOf, val_set, ofValue, ofCell, ↓reduceIte, Nat.reduceEqDiff, v0, v2, v19, v20] <;> rfl)) rfl ((wanted_of (b := true) rfl rfl rfl (by simp only [val_set, ↓reduceIte, Nat.reduceEqDiff, v0, v2, v19, v20] <;> rfl)).trans rfl) ?_
                  refine o_rd (r_move (by simp only [ev, envOf, val_set, ofValue, ofCell, ↓reduceIte, Nat.reduceEqDiff, v0, v2, v19, v20] <;> rfl)) rfl ((wanted_of (b := true) rfl rfl rfl (by simp only [val_set, ↓reduceIte, Nat.reduceEqDiff, v0, v2, v19, v20] <;> rfl)).trans rfl) ?_
                  cases hg21 : (decide (((i : Nat) : Int) = 0) : Bool)
                  · have hg21 := dec_f hg21
                    refine o_rd (r_move (by simp only [ev, envOf, val_set, ofValue, ofCell, ↓reduceIte, Nat.reduceEqDiff, v0, v2, v19, v20] <;> rfl)) rfl ((wanted_of (b := false) rfl rfl rfl (by simp only [val_set, ↓reduceIte, Nat.reduceEqDiff, v0, v2, v19, v20] <;> rfl)).trans rfl) ?_
                    refine o_rd (r_lt (a := ((c.toNat : Nat) : Int)) (b := 48) (by simp only [ev, envOf, val_set, ofValue, ofCell, ↓reduceIte, Nat.reduceEqDiff, v0, v2, v19, v20] <;> rfl) (by simp only [ev, envOf, val_set, ofValue, ofCell, ↓reduceIte, Nat.reduceEqDiff, v0, v2, v19, v20] <;> rfl)) rfl ((wanted_of (b := false) rfl rfl rfl (by simp only [val_set, ↓reduceIte, Nat.reduceEqDiff, v0, v2, v19, v20] <;> rfl)).trans rfl) ?_
                    refine o_rd (r_pick (t := false) (by simp only [ev, envOf, val_set, ofValue, ofCell, ↓reduceIte, Nat.reduceEqDiff, v0, v2, v19, v20] <;> rfl) (fun h => by cases h) (fun _ => (by simp only [ev, envOf, val_set, ofValue, ofCell, ↓reduceIte, Nat.reduceEqDiff, v0, v2, v19, v20] <;> rfl))) rfl ((wanted_of (b := true) rfl rfl rfl (by simp only [val_set, ↓reduceIte, Nat.reduceEqDiff, v0, v2, v19, v20] <;> rfl)).trans rfl) ?_
                    refine o_rd (r_move (by simp only [ev, envOf, val_set, ofValue, ofCell, ↓reduceIte, Nat.reduceEqDiff, v0, v2, v19, v20] <;> rfl)) rfl ((wanted_of (b := true) rfl rfl rfl (by simp only [val_set, ↓reduceIte, Nat.reduceEqDiff, v0, v2, v19, v20] <;> rfl)).trans rfl) ?_
                    cases hg22 : (decide (((c.toNat : Nat) : Int) < 48) : Bool)
                    · have hg22 := dec_f hg22
                      refine o_rd (r_move (by simp only [ev, envOf, val_set, ofValue, ofCell, ↓reduceIte, Nat.reduceEqDiff, v0, v2, v19, v20] <;> rfl)) rfl ((wanted_of (b := false) rfl rfl rfl (by simp only [val_set, ↓reduceIte, Nat.reduceEqDiff, v0, v2, v19, v20] <;> rfl)).trans rfl) ?_
                      refine o_rd (r_gt (a := ((c.toNat : Nat) : Int)) (b := 57) (by simp only [ev, envOf, val_set, ofValue, ofCell, ↓reduceIte, Nat.reduceEqDiff, v0, v2, v19, v20] <;> rfl) (by simp only [ev, envOf, val_set, ofValue, ofCell, ↓reduceIte, Nat.reduceEqDiff, v0, v2, v19, v20] <;> rfl)) rfl ((wanted_of (b := false) rfl rfl rfl (by simp only [val_set, ↓reduceIte, Nat.reduceEqDiff, v0, v2, v19, v20] <;> rfl)).trans rfl) ?_
                      refine o_rd (r_pick (t := false) (by simp only [ev, envOf, val_set, ofValue, ofCell, ↓reduceIte, Nat.reduceEqDiff, v0, v2, v19, v20] <;> rfl) (fun h => by cases h) (fun _ => (by simp only [ev, envOf, val_set, ofValue, ofCell, ↓reduceIte, Nat.reduceEqDiff, v0, v2, v19, v20] <;> rfl))) rfl ((wanted_of (b := true) rfl rfl rfl (by simp only [val_set, ↓reduceIte, Nat.reduceEqDiff, v0, v2, v19, v20] <;> rfl)).trans rfl) ?_
                      refine o_rd (r_pick (t := true) (by simp only [ev, envOf, val_set, ofValue, ofCell, ↓reduceIte, Nat.reduceEqDiff, v0, v2, v19, v20] <;> rfl) (fun _ => (by simp only [ev, envOf, val_set, ofValue, ofCell, ↓reduceIte, Nat.reduceEqDiff, v0, v2, v19, v20] <;> rfl)) (fun h => by cases h)) rfl rfl ?_
                      refine o_nil ?_
                      refine w_cond (by simp only [ev, envOf, val_set, ofValue, ofCell, ↓reduceIte, Nat.reduceEqDiff, v0, v2, v19, v20] <;> rfl) (fun hB23 => ?_) (fun hB23 => ?_)
                      · have hc23 := dec_t hB23
                        refine w_seq ?_
                        refine w_region ?_
                        refine o_rd (r_assign (by simp only [ev, envOf, val_set, ofValue, ofCell, ↓reduceIte, Nat.reduceEqDiff, v0, v2, v19, v20] <;> rfl)) rfl rfl ?_
                        refine o_nil ?_
                        refine w_ret ⟨.inr rfl, rfl, .bool (false), (show resultA Tryd.prog [.tmp 2] _ = _ by simp only [resultA, resultsA, envOf, val_set, ↓reduceIte, Nat.reduceEqDiff, Option.map_some, v0, v2, v19, v20] <;> rfl), ?_⟩
                        try dsimp only
                        refine ⟨congrArg AV.bool (Eq.symm (decide_eq_false ?_)), E5⟩
                        rintro ⟨h1, h2, h3, h4⟩
                        first | exact absurd (by assumption) h1 | omega | (exact absurd h3 (by assumption)) | (have h5 := h4 i (by assumption); rw [(List.getElem?_eq_some_iff.1 hc0).2] at h5; unfold chP at h5; omega)
                      · have hc23 := dec_f hB23
                        refine w_skip ?_
                        refine w_region ?_
                        refine o_rd (r_addE (a := ((i : Nat) : Int)) (b := 1) (c := ((i + 1 : Nat) : Int)) (by simp only [ev, envOf, val_set, ofValue, ofCell, ↓reduceIte, Nat.reduceEqDiff, v0, v2, v19, v20] <;> rfl) (by simp only [ev, envOf, val_set, ofValue, ofCell, ↓reduceIte, Nat.reduceEqDiff, v0, v2, v19, v20] <;> rfl) (by omega) (by omega) (by omega)) rfl rfl ?_
                        refine o_rd (r_move (by simp only [ev, envOf, val_set, ofValue, ofCell, ↓reduceIte, Nat.reduceEqDiff, v0, v2, v19, v20] <;> rfl)) rfl rfl ?_
                        refine o_nil ?_
                        exact ⟨m - 1, (by omega), _, H5, i + 1, rfl, (by simp only [val_set, ↓reduceIte, Nat.reduceEqDiff, v0, v2, v19, v20] <;> rfl), (by simp only [val_set, ↓reduceIte, Nat.reduceEqDiff, v0, v2, v19, v20] <;> rfl), (by simp only [val_set, ↓reduceIte, Nat.reduceEqDiff, v0, v2, v19, v20] <;> rfl), (by simp only [val_set, ↓reduceIte, Nat.reduceEqDiff, v0, v2, v19, v20] <;> rfl), W5, E5, (fun j h hj => by rcases Nat.lt_succ_iff_lt_or_eq.1 hj with h2 | h2 <;> first | exact hok j h h2 | (subst h2; rw [(List.getElem?_eq_some_iff.1 hc0).2]; unfold chP; omega)), (by omega)⟩
                    · have hg22 := dec_t hg22
                      refine o_sk rfl ((wanted_of (b := true) rfl rfl rfl (by simp only [val_set, ↓reduceIte, Nat.reduceEqDiff, v0, v2, v19, v20] <;> rfl)).trans rfl) ?_
                      refine o_sk rfl ((wanted_of (b := true) rfl rfl rfl (by simp only [val_set, ↓reduceIte, Nat.reduceEqDiff, v0, v2, v19, v20] <;> rfl)).trans rfl) ?_
                      refine o_rd (r_pick (t := true) (by simp only [ev, envOf, val_set, ofValue, ofCell, ↓reduceIte, Nat.reduceEqDiff, v0, v2, v19, v20] <;> rfl) (fun _ => (by simp only [ev, envOf, val_set, ofValue, ofCell, ↓reduceIte, Nat.reduceEqDiff, v0, v2, v19, v20] <;> rfl)) (fun h => by cases h)) rfl ((wanted_of (b := true) rfl rfl rfl (by simp only [val_set, ↓reduceIte, Nat.reduceEqDiff, v0, v2, v19, v20] <;> rfl)).trans rfl) ?_
                      refine o_rd (r_pick (t := true) (by simp only [ev, envOf, val_set, ofValue, ofCell, ↓reduceIte, Nat.reduceEqDiff, v0, v2, v19, v20] <;> rfl) (fun _ => (by simp only [ev, envOf, val_set, ofValue, ofCell, ↓reduceIte, Nat.reduceEqDiff, v0, v2, v19, v20] <;> rfl)) (fun h => by cases h)) rfl rfl ?_
                      refine o_nil ?_
                      refine w_cond (t := true) (by simp only [ev, envOf, val_set, ofValue, ofCell, ↓reduceIte, Nat.reduceEqDiff, v0, v2, v19, v20] <;> rfl) (fun _ => ?_) (fun h => by cases h)
                      refine w_seq ?_
                      refine w_region ?_
                      refine o_rd (r_assign (by simp only [ev, envOf, val_set, ofValue, ofCell, ↓reduceIte, Nat.reduceEqDiff, v0, v2, v19, v20] <;> rfl)) rfl rfl ?_
                      refine o_nil ?_
                      refine w_ret ⟨.inr rfl, rfl, .bool (false), (show resultA Tryd.prog [.tmp 2] _ = _ by simp only [resultA, resultsA, envOf, val_set, ↓reduceIte, Nat.reduceEqDiff, Option.map_some, v0, v2, v19, v20] <;> rfl), ?_⟩
                      try dsimp only
                      refine ⟨congrArg AV.bool (Eq.symm (decide_eq_false ?_)), E5⟩
                      rintro ⟨h1, h2, h3, h4⟩
                      first | exact absurd (by assumption) h1 | omega | (exact absurd h3 (by assumption)) | (have h5 := h4 i (by assumption); rw [(List.getElem?_eq_some_iff.1 hc0).2] at h5; unfold chP at h5; omega)
                  · have hg21 := dec_t hg21
                    refine o_sk rfl ((wanted_of (b := true) rfl rfl rfl (by simp only [val_set, ↓reduceIte, Nat.reduceEqDiff, v0, v2, v19, v20] <;> rfl)).trans rfl) ?_
                    refine o_sk rfl ((wanted_of (b := true) rfl rfl rfl (by simp only [val_set, ↓reduceIte, Nat.reduceEqDiff, v0, v2, v19, v20] <;> rfl)).trans rfl) ?_
                    refine o_rd (r_pick (t := true) (by simp only [ev, envOf, val_set, ofValue, ofCell, ↓reduceIte, Nat.reduceEqDiff, v0, v2, v19, v20] <;> rfl) (fun _ => (by simp only [ev, envOf, val_set, ofValue, ofCell, ↓reduceIte, Nat.reduceEqDiff, v0, v2, v19, v20] <;> rfl)) (fun h => by cases h)) rfl ((wanted_of (b := true) rfl rfl rfl (by simp only [val_set, ↓reduceIte, Nat.reduceEqDiff, v0, v2, v19, v20] <;> rfl)).trans rfl) ?_
                    refine o_rd (r_move (by simp only [ev, envOf, val_set, ofValue, ofCell, ↓reduceIte, Nat.reduceEqDiff, v0, v2, v19, v20] <;> rfl)) rfl ((wanted_of (b := true) rfl rfl rfl (by simp only [val_set, ↓reduceIte, Nat.reduceEqDiff, v0, v2, v19, v20] <;> rfl)).trans rfl) ?_
                    refine o_sk rfl ((wanted_of (b := true) rfl rfl rfl (by simp only [val_set, ↓reduceIte, Nat.reduceEqDiff, v0, v2, v19, v20] <;> rfl)).trans rfl) ?_
                    refine o_sk rfl ((wanted_of (b := true) rfl rfl rfl (by simp only [val_set, ↓reduceIte, Nat.reduceEqDiff, v0, v2, v19, v20] <;> rfl)).trans rfl) ?_
                    refine o_rd (r_pick (t := true) (by simp only [ev, envOf, val_set, ofValue, ofCell, ↓reduceIte, Nat.reduceEqDiff, v0, v2, v19, v20] <;> rfl) (fun _ => (by simp only [ev, envOf, val_set, ofValue, ofCell, ↓reduceIte, Nat.reduceEqDiff, v0, v2, v19, v20] <;> rfl)) (fun h => by cases h)) rfl ((wanted_of (b := true) rfl rfl rfl (by simp only [val_set, ↓reduceIte, Nat.reduceEqDiff, v0, v2, v19, v20] <;> rfl)).trans rfl) ?_
                    refine o_rd (r_pick (t := true) (by simp only [ev, envOf, val_set, ofValue, ofCell, ↓reduceIte, Nat.reduceEqDiff, v0, v2, v19, v20] <;> rfl) (fun _ => (by simp only [ev, envOf, val_set, ofValue, ofCell, ↓reduceIte, Nat.reduceEqDiff, v0, v2, v19, v20] <;> rfl)) (fun h => by cases h)) rfl rfl ?_
                    refine o_nil ?_
                    refine w_cond (t := true) (by simp only [ev, envOf, val_set, ofValue, ofCell, ↓reduceIte, Nat.reduceEqDiff, v0, v2, v19, v20] <;> rfl) (fun _ => ?_) (fun h => by cases h)
                    refine w_seq ?_
                    refine w_region ?_
                    refine o_rd (r_assign (by simp only [ev, envOf, val_set, ofValue, ofCell, ↓reduceIte, Nat.reduceEqDiff, v0, v2, v19, v20] <;> rfl)) rfl rfl ?_
                    refine o_nil ?_
                    refine w_ret ⟨.inr rfl, rfl, .bool (false), (show resultA Tryd.prog [.tmp 2] _ = _ by simp only [resultA, resultsA, envOf, val_set, ↓reduceIte, Nat.reduceEqDiff, Option.map_some, v0, v2, v19, v20] <;> rfl), ?_⟩
                    try dsimp only
                    refine ⟨congrArg AV.bool (Eq.symm (decide_eq_false ?_)), E5⟩
                    rintro ⟨h1, h2, h3, h4⟩
                    first | exact absurd (by assumption) h1 | omega | (exact absurd h3 (by assumption)) | (have h5 := h4 i (by assumption); rw [(List.getElem?_eq_some_iff.1 hc0).2] at h5; unfold chP at h5; omega)
              · have hg19 := dec_t hg19
                refine o_rd (r_move (by simp only [ev, envOf, val_set, ofValue, ofCell, ↓reduceIte, Nat.reduceEqDiff, v0, v2, v19, v20] <;> rfl)) rfl ((wanted_of (b := true) rfl rfl rfl (by simp only [val_set, ↓reduceIte, Nat.reduceEqDiff, v0, v2, v19, v20] <;> rfl)).trans rfl) ?_
                refine o_rd (r_le (a := ((c.toNat : Nat) : Int)) (b := 90) (by simp only [ev, envOf, val_set, ofValue, ofCell, ↓reduceIte, Nat.reduceEqDiff, v0, v2, v19, v20] <;> rfl) (by simp only [ev, envOf, val_set, ofValue, ofCell, ↓reduceIte, Nat.reduceEqDiff, v0, v2, v19, v20] <;> rfl)) rfl ((wanted_of (b := true) rfl rfl rfl (by simp only [val_set, ↓reduceIte, Nat.reduceEqDiff, v0, v2, v19, v20] <;> rfl)).trans rfl) ?_
                refine o_rd (r_pick (t := true) (by simp only [ev, envOf, val_set, ofValue, ofCell, ↓reduceIte, Nat.reduceEqDiff, v0, v2, v19, v20] <;> rfl) (fun _ => (by simp only [ev, envOf, val_set, ofValue, ofCell, ↓reduceIte, Nat.reduceEqDiff, v0, v2, v19, v20] <;> rfl)) (fun h => by cases h)) rfl ((wanted_of (b := false) rfl rfl rfl (by simp only [val_set, ↓reduceIte, Nat.reduceEqDiff, v0, v2, v19, v20] <;> rfl)).trans rfl) ?_
                refine o_rd (r_pick (t := false) (by simp only [ev, envOf, val_set, ofValue, ofCell, ↓reduceIte, Nat.reduceEqDiff, v0, v2, v19, v20] <;> rfl) (fun h => by cases h) (fun _ => (by simp only [ev, envOf, val_set, ofValue, ofCell, ↓reduceIte, Nat.reduceEqDiff, v0, v2, v19, v20] <;> rfl))) rfl rfl ?_
                refine o_rd (r_move (by simp only [ev, envOf, val_set, ofValue, ofCell, ↓reduceIte, Nat.reduceEqDiff, v0, v2, v19, v20] <;> rfl)) rfl rfl ?_
                cases hg24 : (decide (((c.toNat : Nat) : Int) ≤ 90) : Bool)
                · have hg24 := dec_f hg24
                  refine o_rd (r_move (by simp only [ev, envOf, val_set, ofValue, ofCell, ↓reduceIte, Nat.reduceEqDiff, v0, v2, v19, v20] <;> rfl)) rfl ((wanted_of (b := false) rfl rfl rfl (by simp only [val_set, ↓reduceIte, Nat.reduceEqDiff, v0, v2, v19, v20] <;> rfl)).trans rfl) ?_
                  refine o_rd (r_eq (a := ((c.toNat : Nat) : Int)) (b := 95) (by simp only [ev, envOf, val_set, ofValue, ofCell, ↓reduceIte, Nat.reduceEqDiff, v0, v2, v19, v20] <;> rfl) (by simp only [ev, envOf, val_set, ofValue, ofCell, ↓reduceIte, Nat.reduceEqDiff, v0, v2, v19, v20] <;> rfl)) rfl ((wanted_of (b := false) rfl rfl rfl (by simp only [val_set, ↓reduceIte, Nat.reduceEqDiff, v0, v2, v19, v20] <;> rfl)).trans rfl) ?_
                  refine o_rd (r_pick (t := false) (by simp only [ev, envOf, val_set, ofValue, ofCell, ↓reduceIte, Nat.reduceEqDiff, v0, v2, v19, v20] <;> rfl) (fun h => by cases h) (fun _ => (by simp only [ev, envOf, val_set, ofValue, ofCell, ↓reduceIte, Nat.reduceEqDiff, v0, v2, v19, v20] <;> rfl))) rfl rfl ?_
                  refine o_rd (r_assign (by simp only [ev, envOf, val_set, ofValue, ofCell, ↓reduceIte, Nat.reduceEqDiff, v0, v2, v19, v20] <;> rfl)) rfl rfl ?_
                  refine o_nil ?_
                  refine w_seq ?_
                  refine w_region ?_
                  refine o_rd (r_move (by simp only [ev, envOf, val_set, ofValue, ofCell, ↓reduceIte, Nat.reduceEqDiff, v0, v2, v19, v20] <;> rfl)) rfl rfl ?_
                  refine o_rd (r_not (by simp only [ev, envOf, val_set, ofValue, ofCell, ↓reduceIte, Nat.reduceEqDiff, v0, v2, v19, v20] <;> rfl)) rfl rfl ?_
                  refine o_rd (r_move (by simp only [ev, envOf, val_set, ofValue, ofCell, ↓reduceIte, Nat.reduceEqDiff, v0, v2, v19, v20] <;> rfl)) rfl rfl ?_
                  cases hg25 : (!(decide (((c.toNat : Nat) : Int) = 95)) : Bool)
                  · have hg25 := dec_t (not_f hg25)
                    refine o_sk rfl ((wanted_of (b := false) rfl rfl rfl (by simp only [val_set, ↓reduceIte, Nat.reduceEqDiff, v0, v2, v19, v20] <;> rfl)).trans rfl) ?_
                    refine o_sk rfl ((wanted_of (b := false) rfl rfl rfl (by simp only [val_set, ↓reduceIte, Nat.reduceEqDiff, v0, v2, v19, v20] <;> rfl)).trans rfl) ?_
                    refine o_sk rfl ((wanted_of (b := false) rfl rfl rfl (by simp only [val_set, ↓reduceIte, Nat.reduceEqDiff, v0, v2, v19, v20] <;> rfl)).trans rfl) ?_
                    refine o_sk rfl (wanted_no rfl rfl rfl (by simp only [val_set, ↓reduceIte, Nat.reduceEqDiff, v0, v2, v19, v20] <;> rfl)) ?_
                    refine o_sk rfl (wanted_no rfl rfl rfl (by simp only [val_set, ↓reduceIte, Nat.reduceEqDiff, v0, v2, v19, v20] <;> rfl)) ?_
                    refine o_sk rfl ((wanted_of (b := false) rfl rfl rfl (by simp only [val_set, ↓reduceIte, Nat.reduceEqDiff, v0, v2, v19, v20] <;> rfl)).trans rfl) ?_
                    refine o_sk rfl ((wanted_of (b := false) rfl rfl rfl (by simp only [val_set, ↓reduceIte, Nat.reduceEqDiff, v0, v2, v19, v20] <;> rfl)).trans rfl) ?_
                    refine o_sk rfl (wanted_no rfl rfl rfl (by simp only [val_set, ↓reduceIte, Nat.reduceEqDiff, v0, v2, v19, v20] <;> rfl)) ?_
                    refine o_sk rfl (wanted_no rfl rfl rfl (by simp only [val_set, ↓reduceIte, Nat.reduceEqDiff, v0, v2, v19, v20] <;> rfl)) ?_
                    refine o_sk rfl ((wanted_of (b := false) rfl rfl rfl (by simp only [val_set, ↓reduceIte, Nat.reduceEqDiff, v0, v2, v19, v20] <;> rfl)).trans rfl) ?_
                    refine o_rd (r_pick (t := false) (by simp only [ev, envOf, val_set, ofValue, ofCell, ↓reduceIte, Nat.reduceEqDiff, v0, v2, v19, v20] <;> rfl) (fun h => by cases h) (fun _ => (by simp only [ev, envOf, val_set, ofValue, ofCell, ↓reduceIte, Nat.reduceEqDiff, v0, v2, v19, v20] <;> rfl))) rfl rfl ?_
                    refine o_nil ?_
                    refine w_cond (t := false) (by simp only [ev, envOf, val_set, ofValue, ofCell, ↓reduceIte, Nat.reduceEqDiff, v0, v2, v19, v20] <;> rfl) (fun h => by cases h) (fun _ => ?_)
                    refine w_skip ?_
                    refine w_region ?_
                    refine o_rd (r_addE (a := ((i : Nat) : Int)) (b := 1) (c := ((i + 1 : Nat) : Int)) (by simp only [ev, envOf, val_set, ofValue, ofCell, ↓reduceIte, Nat.reduceEqDiff, v0, v2, v19, v20] <;> rfl) (by simp only [ev, envOf, val_set, ofValue, ofCell, ↓reduceIte, Nat.reduceEqDiff, v0, v2, v19, v20] <;> rfl) (by omega) (by omega) (by omega)) rfl rfl ?_
                    refine o_rd (r_move (by simp only [ev, envOf, val_set, ofValue, ofCell, ↓reduceIte, Nat.reduceEqDiff, v0, v2, v19, v20] <;> rfl)) rfl rfl ?_
                    refine o_nil ?_
                    exact ⟨m - 1, (by omega), _, H5, i + 1, rfl, (by simp only [val_set, ↓reduceIte, Nat.reduceEqDiff, v0, v2, v19, v20] <;> rfl), (by simp only [val_set, ↓reduceIte, Nat.reduceEqDiff, v0, v2, v19, v20] <;> rfl), (by simp only [val_set, ↓reduceIte, Nat.reduceEqDiff, v0, v2, v19, v20] <;> rfl), (by simp only [val_set, ↓reduceIte, Nat.reduceEqDiff, v0, v2, v19, v20] <;> rfl), W5, E5, (fun j h hj => by rcases Nat.lt_succ_iff_lt_or_eq.1 hj with h2 | h2 <;> first | exact hok j h h2 | (subst h2; rw [(List.getElem?_eq_some_iff.1 hc0).2]; unfold chP; omega)), (by omega)⟩
                  · have hg25 := dec_f (not_t hg25)
                    refine o_rd (r_move (by simp only [ev, envOf, val_set, ofValue, ofCell, ↓reduceIte, Nat.reduceEqDiff, v0, v2, v19, v20] <;> rfl)) rfl ((wanted_of (b := true) rfl rfl rfl (by simp only [val_set, ↓reduceIte, Nat.reduceEqDiff, v0, v2, v19, v20] <;> rfl)).trans rfl) ?_
                    refine o_rd (r_eq (a := ((i : Nat) : Int)) (b := 0) (by simp only [ev, envOf, val_set, ofValue, ofCell, ↓reduceIte, Nat.reduceEqDiff, v0, v2, v19, v20] <;> rfl) (by simp only [ev, envOf, val_set, ofValue, ofCell, ↓reduceIte, Nat.reduceEqDiff, v0, v2, v19, v20] <;> rfl)) rfl ((wanted_of (b := true) rfl rfl rfl (by simp only [val_set, ↓reduceIte, Nat.reduceEqDiff, v0, v2, v19, v20] <;> rfl)).trans rfl) ?_
                    refine o_rd (r_move (by simp only [ev, envOf, val_set, ofValue, ofCell, ↓reduceIte, Nat.reduceEqDiff, v0, v2, v19, v20] <;> rfl)) rfl ((wanted_of (b := true) rfl rfl rfl (by simp only [val_set, ↓reduceIte, Nat.reduceEqDiff, v0, v2, v19, v20] <;> rfl)).trans rfl) ?_
                    cases hg26 : (decide (((i : Nat) : Int) = 0) : Bool)
                    · have hg26 := dec_f hg26
                      refine o_rd (r_move (by simp only [ev, envOf, val_set, ofValue, ofCell, ↓reduceIte, Nat.reduceEqDiff, v0, v2, v19, v20] <;> rfl)) rfl ((wanted_of (b := false) rfl rfl rfl (by simp only [val_set, ↓reduceIte, Nat.reduceEqDiff, v0, v2, v19, v20] <;> rfl)).trans rfl) ?_
                      refine o_rd (r_lt (a := ((c.toNat : Nat) : Int)) (b := 48) (by simp only [ev, envOf, val_set, ofValue, ofCell, ↓reduceIte, Nat.reduceEqDiff, v0, v2, v19, v20] <;> rfl) (by simp only [ev, envOf, val_set, ofValue, ofCell, ↓reduceIte, Nat.reduceEqDiff, v0, v2, v19, v20] <;> rfl)) rfl ((wanted_of (b := false) rfl rfl rfl (by simp only [val_set, ↓reduceIte, Nat.reduceEqDiff, v0, v2, v19, v20] <;> rfl)).trans rfl) ?_
                      refine o_rd (r_pick (t := false) (by simp only [ev, envOf, val_set, ofValue, ofCell, ↓reduceIte, Nat.reduceEqDiff, v0, v2, v19, v20] <;> rfl) (fun h => by cases h) (fun _ => (by simp only [ev, envOf, val_set, ofValue, ofCell, ↓reduceIte, Nat.reduceEqDiff, v0, v2, v19, v20] <;> rfl))) rfl ((wanted_of (b := true) rfl rfl rfl (by simp only [val_set, ↓reduceIte, Nat.reduceEqDiff, v0, v2, v19, v20] <;> rfl)).trans rfl) ?_
                      refine o_rd (r_move (by simp only [ev, envOf, val_set, ofValue, ofCell, ↓reduceIte, Nat.reduceEqDiff, v0, v2, v19, v20] <;> rfl)) rfl ((wanted_of (b := true) rfl rfl rfl (by simp only [val_set, ↓reduceIte, Nat.reduceEqDiff, v0, v2, v19, v20] <;> rfl)).trans rfl) ?_
                      cases hg27 : (decide (((c.toNat : Nat) : Int) < 48) : Bool)
                      · have hg27 := dec_f hg27
                        refine o_rd (r_move (by simp only [ev, envOf, val_set, ofValue, ofCell, ↓reduceIte, Nat.reduceEqDiff, v0, v2, v19, v20] <;> rfl)) rfl ((wanted_of (b := false) rfl rfl rfl (by simp only [val_set, ↓reduceIte, Nat.reduceEqDiff, v0, v2, v19, v20] <;> rfl)).trans rfl) ?_
                        refine o_rd (r_gt (a := ((c.toNat : Nat) : Int)) (b := 57) (by simp only [ev, envOf, val_set, ofValue, ofCell, ↓reduceIte, Nat.reduceEqDiff, v0, v2, v19, v20] <;> rfl) (by simp only [ev, envOf, val_set, ofValue, ofCell, ↓reduceIte, Nat.reduceEqDiff, v0, v2, v19, v20] <;> rfl)) rfl ((wanted_of (b := false) rfl rfl rfl (by simp only [val_set, ↓reduceIte, Nat.reduceEqDiff, v0, v2, v19, v20] <;> rfl)).trans rfl) ?_
                        refine o_rd (r_pick (t := false) (by simp only [ev, envOf, val_set, ofValue, ofCell, ↓reduceIte, Nat.reduceEqDiff, v0, v2, v19, v20] <;> rfl) (fun h => by cases h) (fun _ => (by simp only [ev, envOf, val_set, ofValue, ofCell, ↓reduceIte, Nat.reduceEqDiff, v0, v2, v19, v20] <;> rfl))) rfl ((wanted_of (b := true) rfl rfl rfl (by simp only [val_set, ↓reduceIte, Nat.reduceEqDiff, v0, v2, v19, v20] <;> rfl)).trans rfl) ?_
                        refine o_rd (r_pick (t := true) (by simp only [ev, envOf, val_set, ofValue, ofCell, ↓reduceIte, Nat.reduceEqDiff, v0, v2, v19, v20] <;> rfl) (fun _ => (by simp only [ev, envOf, val_set, ofValue, ofCell, ↓reduceIte, Nat.reduceEqDiff, v0, v2, v19, v20] <;> rfl)) (fun h => by cases h)) rfl rfl ?_
                        refine o_nil ?_
                        refine w_cond (by simp only [ev, envOf, val_set, ofValue, ofCell, ↓reduceIte, Nat.reduceEqDiff, v0, v2, v19, v20] <;> rfl) (fun hB28 => ?_) (fun hB28 => ?_)
                        · have hc28 := dec_t hB28
                          refine w_seq ?_
                          refine w_region ?_
                          refine o_rd (r_assign (by simp only [ev, envOf, val_set, ofValue, ofCell, ↓reduceIte, Nat.reduceEqDiff, v0, v2, v19, v20] <;> rfl)) rfl rfl ?_
                          refine o_nil ?_
                          refine w_ret ⟨.inr rfl, rfl, .bool (false), (show resultA Tryd.prog [.tmp 2] _ = _ by simp only [resultA, resultsA, envOf, val_set, ↓reduceIte, Nat.reduceEqDiff, Option.map_some, v0, v2, v19, v20] <;> rfl), ?_⟩
                          try dsimp only
                          refine ⟨congrArg AV.bool (Eq.symm (decide_eq_false ?_)), E5⟩
                          rintro ⟨h1, h2, h3, h4⟩
                          first | exact absurd (by assumption) h1 | omega | (exact absurd h3 (by assumption)) | (have h5 := h4 i (by assumption); rw [(List.getElem?_eq_some_iff.1 hc0).2] at h5; unfold chP at h5; omega)
                        · have hc28 := dec_f hB28
                          refine w_skip ?_
                          refine w_region ?_
                          refine o_rd (r_addE (a := ((i : Nat) : Int)) (b := 1) (c := ((i + 1 : Nat) : Int)) (by simp only [ev, envOf, val_set, ofValue, ofCell, ↓reduceIte, Nat.reduceEqDiff, v0, v2, v19, v20] <;> rfl) (by simp only [ev, envOf, val_set, ofValue, ofCell, ↓reduceIte, Nat.reduceEqDiff, v0, v2, v19, v20] <;> rfl) (by omega) (by omega) (by omega)) rfl rfl ?_
                          refine o_rd (r_move (by simp only [ev, envOf, val_set, ofValue, ofCell, ↓reduceIte, Nat.reduceEqDiff, v0, v2, v19, v20] <;> rfl)) rfl rfl ?_
                          refine o_nil ?_
                          exact ⟨m - 1, (by omega), _, H5, i + 1, rfl, (by simp only [val_set, ↓reduceIte, Nat.reduceEqDiff, v0, v2, v19, v20] <;> rfl), (by simp only [val_set, ↓reduceIte, Nat.reduceEqDiff, v0, v2, v19, v20] <;> rfl), (by simp only [val_set, ↓reduceIte, Nat.reduceEqDiff, v0, v2, v19, v20] <;> rfl), (by simp only [val_set, ↓reduceIte, Nat.reduceEqDiff, v0, v2, v19, v20] <;> rfl), W5, E5, (fun j h hj => by rcases Nat.lt_succ_iff_lt_or_eq.1 hj with h2 | h2 <;> first | exact hok j h h2 | (subst h2; rw [(List.getElem?_eq_some_iff.1 hc0).2]; unfold chP; omega)), (by omega)⟩
                      · have hg27 := dec_t hg27
                        refine o_sk rfl ((wanted_of (b := true) rfl rfl rfl (by simp only [val_set, ↓reduceIte, Nat.reduceEqDiff, v0, v2, v19, v20] <;> rfl)).trans rfl) ?_
                        refine o_sk rfl ((wanted_of (b := true) rfl rfl rfl (by simp only [val_set, ↓reduceIte, Nat.reduceEqDiff, v0, v2, v19, v20] <;> rfl)).trans rfl) ?_
                        refine o_rd (r_pick (t := true) (by simp only [ev, envOf, val_set, ofValue, ofCell, ↓reduceIte, Nat.reduceEqDiff, v0, v2, v19, v20] <;> rfl) (fun _ => (by simp only [ev, envOf, val_set, ofValue, ofCell, ↓reduceIte, Nat.reduceEqDiff, v0, v2, v19, v20] <;> rfl)) (fun h => by cases h)) rfl ((wanted_of (b := true) rfl rfl rfl (by simp only [val_set, ↓reduceIte, Nat.reduceEqDiff, v0, v2, v19, v20] <;> rfl)).trans rfl) ?_
                        refine o_rd (r_pick (t := true) (by simp only [ev, envOf, val_set, ofValue, ofCell, ↓reduceIte, Nat.reduceEqDiff, v0, v2, v19, v20] <;> rfl) (fun _ => (by simp only [ev, envOf, val_set, ofValue, ofCell, ↓reduceIte, Nat.reduceEqDiff, v0, v2, v19, v20] <;> rfl)) (fun h => by cases h)) rfl rfl ?_
                        refine o_nil ?_
                        refine w_cond (t := true) (by simp only [ev, envOf, val_set, ofValue, ofCell, ↓reduceIte, Nat.reduceEqDiff, v0, v2, v19, v20] <;> rfl) (fun _ => ?_) (fun h => by cases h)
                        refine w_seq ?_
                        refine w_region ?_
                        refine o_rd (r_assign (by simp only [ev, envOf, val_set, ofValue, ofCell, ↓reduceIte, Nat.reduceEqDiff, v0, v2, v19, v20] <;> rfl)) rfl rfl ?_
                        refine o_nil ?_
                        refine w_ret ⟨.inr rfl, rfl, .bool (false), (show resultA Tryd.prog [.tmp 2] _ = _ by simp only [resultA, resultsA, envOf, val_set, ↓reduceIte, Nat.reduceEqDiff, Option.map_some, v0, v2, v19, v20] <;> rfl), ?_⟩
                        try dsimp only
                        refine ⟨congrArg AV.bool (Eq.symm (decide_eq_false ?_)), E5⟩
                        rintro ⟨h1, h2, h3, h4⟩
                        first | exact absurd (by assumption) h1 | omega | (exact absurd h3 (by assumption)) | (have h5 := h4 i (by assumption); rw [(List.getElem?_eq_some_iff.1 hc0).2] at h5; unfold chP at h5; omega)
                    · have hg26 := dec_t hg26
                      refine o_sk rfl ((wanted_of (b := true) rfl rfl rfl (by simp only [val_set, ↓reduceIte, Nat.reduceEqDiff, v0, v2, v19, v20] <;> rfl)).trans rfl) ?_
                      refine o_sk rfl ((wanted_of (b := true) rfl rfl rfl (by simp only [val_set, ↓reduceIte, Nat.reduceEqDiff, v0, v2, v19, v20] <;> rfl)).trans rfl) ?_
                      refine o_rd (r_pick (t := true) (by simp only [ev, envOf, val_set, ofValue, ofCell, ↓reduceIte, Nat.reduceEqDiff, v0, v2, v19, v20] <;> rfl) (fun _ => (by simp only [ev, envOf, val_set, ofValue, ofCell, ↓reduceIte, Nat.reduceEqDiff, v0, v2, v19, v20] <;> rfl)) (fun h => by cases h)) rfl ((wanted_of (b := true) rfl rfl rfl (by simp only [val_set, ↓reduceIte, Nat.reduceEqDiff, v0, v2, v19, v20] <;> rfl)).trans rfl) ?_
                      refine o_rd (r_move (by simp only [ev, envOf, val_set, ofValue, ofCell, ↓reduceIte, Nat.reduceEqDiff, v0, v2, v19, v20] <;> rfl)) rfl ((wanted_of (b := true) rfl rfl rfl (by simp only [val_set, ↓reduceIte, Nat.reduceEqDiff, v0, v2, v19, v20] <;> rfl)).trans rfl) ?_
                      refine o_sk rfl ((wanted_of (b := true) rfl rfl rfl (by simp only [val_set, ↓reduceIte, Nat.reduceEqDiff, v0, v2, v19, v20] <;> rfl)).trans rfl) ?_
                      refine o_sk rfl ((wanted_of (b := true) rfl rfl rfl (by simp only [val_set, ↓reduceIte, Nat.reduceEqDiff, v0, v2, v19, v20] <;> rfl)).trans rfl) ?_
                      refine o_rd (r_pick (t := true) (by simp only [ev, envOf, val_set, ofValue, ofCell, ↓reduceIte, Nat.reduceEqDiff, v0, v2, v19, v20] <;> rfl) (fun _ => (by simp only [ev, envOf, val_set, ofValue, ofCell, ↓reduceIte, Nat.reduceEqDiff, v0, v2, v19, v20] <;> rfl)) (fun h => by cases h)) rfl ((wanted_of (b := true) rfl rfl rfl (by simp only [val_set, ↓reduceIte, Nat.reduceEqDiff, v0, v2, v19, v20] <;> rfl)).trans rfl) ?_
                      refine o_rd (r_pick (t := true) (by simp only [ev, envOf, val_set, ofValue, ofCell, ↓reduceIte, Nat.reduceEqDiff, v0, v2, v19, v20] <;> rfl) (fun _ => (by simp only [ev, envOf, val_set, ofValue, ofCell, ↓reduceIte, Nat.reduceEqDiff, v0, v2, v19, v20] <;> rfl)) (fun h => by cases h)) rfl rfl ?_
                      refine o_nil ?_
                      refine w_cond (t := true) (by simp only [ev, envOf, val_set, ofValue, ofCell, ↓reduceIte, Nat.reduceEqDiff, v0, v2, v19, v20] <;> rfl) (fun _ => ?_) (fun h => by cases h)
                      refine w_seq ?_
                      refine w_region ?_
                      refine o_rd (r_assign (by simp only [ev, envOf, val_set, ofValue, ofCell, ↓reduceIte, Nat.reduceEqDiff, v0, v2, v19, v20] <;> rfl)) rfl rfl ?_
                      refine o_nil ?_
                      refine w_ret ⟨.inr rfl, rfl, .bool (false), (show resultA Tryd.prog [.tmp 2] _ = _ by simp only [resultA, resultsA, envOf, val_set, ↓reduceIte, Nat.reduceEqDiff, Option.map_some, v0, v2, v19, v20] <;> rfl), ?_⟩
                      try dsimp only
                      refine ⟨congrArg AV.bool (Eq.symm (decide_eq_false ?_)), E5⟩
                      rintro ⟨h1, h2, h3, h4⟩
                      first | exact absurd (by assumption) h1 | omega | (exact absurd h3 (by assumption)) | (have h5 := h4 i (by assumption); rw [(List.getElem?_eq_some_iff.1 hc0).2] at h5; unfold chP at h5; omega)
                · have hg24 := dec_t hg24
                  refine o_sk rfl ((wanted_of (b := true) rfl rfl rfl (by simp only [val_set, ↓reduceIte, Nat.reduceEqDiff, v0, v2, v19, v20] <;> rfl)).trans rfl) ?_
                  refine o_sk rfl ((wanted_of (b := true) rfl rfl rfl (by simp only [val_set, ↓reduceIte, Nat.reduceEqDiff, v0, v2, v19, v20] <;> rfl)).trans rfl) ?_
                  refine o_rd (r_pick (t := true) (by simp only [ev, envOf, val_set, ofValue, ofCell, ↓reduceIte, Nat.reduceEqDiff, v0, v2, v19, v20] <;> rfl) (fun _ => (by simp only [ev, envOf, val_set, ofValue, ofCell, ↓reduceIte, Nat.reduceEqDiff, v0, v2, v19, v20] <;> rfl)) (fun h => by cases h)) rfl rfl ?_
                  refine o_rd (r_assign (by simp only [ev, envOf, val_set, ofValue, ofCell, ↓reduceIte, Nat.reduceEqDiff, v0, v2, v19, v20] <;> rfl)) rfl rfl ?_
                  refine o_nil ?_
                  refine w_seq ?_
                  refine w_region ?_
                  refine o_rd (r_move (by simp only [ev, envOf, val_set, ofValue, ofCell, ↓reduceIte, Nat.reduceEqDiff, v0, v2, v19, v20] <;> rfl)) rfl rfl ?_
                  refine o_rd (r_not (by simp only [ev, envOf, val_set, ofValue, ofCell, ↓reduceIte, Nat.reduceEqDiff, v0, v2, v19, v20] <;> rfl)) rfl rfl ?_
                  refine o_rd (r_move (by simp only [ev, envOf, val_set, ofValue, ofCell, ↓reduceIte, Nat.reduceEqDiff, v0, v2, v19, v20] <;> rfl)) rfl rfl ?_
                  refine o_sk rfl ((wanted_of (b := false) rfl rfl rfl (by simp only [val_set, ↓reduceIte, Nat.reduceEqDiff, v0, v2, v19, v20] <;> rfl)).trans rfl) ?_
                  refine o_sk rfl ((wanted_of (b := false) rfl rfl rfl (by simp only [val_set, ↓reduceIte, Nat.reduceEqDiff, v0, v2, v19, v20] <;> rfl)).trans rfl) ?_
                  refine o_sk rfl ((wanted_of (b := false) rfl rfl rfl (by simp only [val_set, ↓reduceIte, Nat.reduceEqDiff, v0, v2, v19, v20] <;> rfl)).trans rfl) ?_
                  refine o_sk rfl (wanted_no rfl rfl rfl (by simp only [val_set, ↓reduceIte, Nat.reduceEqDiff, v0, v2, v19, v20] <;> rfl)) ?_
                  refine o_sk rfl (wanted_no rfl rfl rfl (by simp only [val_set, ↓reduceIte, Nat.reduceEqDiff, v0, v2, v19, v20] <;> rfl)) ?_
                  refine o_sk rfl ((wanted_of (b := false) rfl rfl rfl (by simp only [val_set, ↓reduceIte, Nat.reduceEqDiff, v0, v2, v19, v20] <;> rfl)).trans rfl) ?_
                  refine o_sk rfl ((wanted_of (b := false) rfl rfl rfl (by simp only [val_set, ↓reduceIte, Nat.reduceEqDiff, v0, v2, v19, v20] <;> rfl)).trans rfl) ?_
                  refine o_sk rfl (wanted_no rfl rfl rfl (by simp only [val_set, ↓reduceIte, Nat.reduceEqDiff, v0, v2, v19, v20] <;> rfl)) ?_
                  refine o_sk rfl (wanted_no rfl rfl rfl (by simp only [val_set, ↓reduceIte, Nat.reduceEqDiff, v0, v2, v19, v20] <;> rfl)) ?_
                  refine o_sk rfl ((wanted_of (b := false) rfl rfl rfl (by simp only [val_set, ↓reduceIte, Nat.reduceEqDiff, v0, v2, v19, v20] <;> rfl)).trans rfl) ?_
                  refine o_rd (r_pick (t := false) (by simp only [ev, envOf, val_set, ofValue, ofCell, ↓reduceIte, Nat.reduceEqDiff, v0, v2, v19, v20] <;> rfl) (fun h => by cases h) (fun _ => (by simp only [ev, envOf, val_set, ofValue, ofCell, ↓reduceIte, Nat.reduceEqDiff, v0, v2, v19, v20] <;> rfl))) rfl rfl ?_
                  refine o_nil ?_
                  refine w_cond (t := false) (by simp only [ev, envOf, val_set, ofValue, ofCell, ↓reduceIte, Nat.reduceEqDiff, v0, v2, v19, v20] <;> rfl) (fun h => by cases h) (fun _ => ?_)
                  refine w_skip ?_
                  refine w_region ?_
                  refine o_rd (r_addE (a := ((i : Nat) : Int)) (b := 1) (c := ((i + 1 : Nat) : Int)) (by simp only [ev, envOf, val_set, ofValue, ofCell, ↓reduceIte, Nat.reduceEqDiff, v0, v2, v19, v20] <;> rfl) (by simp only [ev, envOf, val_set, ofValue, ofCell, ↓reduceIte, Nat.reduceEqDiff, v0, v2, v19, v20] <;> rfl) (by omega) (by omega) (by omega)) rfl rfl ?_
                  refine o_rd (r_move (by simp only [ev, envOf, val_set, ofValue, ofCell, ↓reduceIte, Nat.reduceEqDiff, v0, v2, v19, v20] <;> rfl)) rfl rfl ?_
                  refine o_nil ?_
                  exact ⟨m - 1, (by omega), _, H5, i + 1, rfl, (by simp only [val_set, ↓reduceIte, Nat.reduceEqDiff, v0, v2, v19, v20] <;> rfl), (by simp only [val_set, ↓reduceIte, Nat.reduceEqDiff, v0, v2, v19, v20] <;> rfl), (by simp only [val_set, ↓reduceIte, Nat.reduceEqDiff, v0, v2, v19, v20] <;> rfl), (by simp only [val_set, ↓reduceIte, Nat.reduceEqDiff, v0, v2, v19, v20] <;> rfl), W5, E5, (fun j h hj => by rcases Nat.lt_succ_iff_lt_or_eq.1 hj with h2 | h2 <;> first | exact hok j h h2 | (subst h2; rw [(List.getElem?_eq_some_iff.1 hc0).2]; unfold chP; omega)), (by omega)⟩
            · have hg18 := dec_t hg18
              refine o_sk rfl ((wanted_of (b := true) rfl rfl rfl (by simp only [val_set, ↓reduceIte, Nat.reduceEqDiff, v0, v2, v19, v20] <;> rfl)).trans rfl) ?_
              refine o_sk rfl ((wanted_of (b := true) rfl rfl rfl (by simp only [val_set, ↓reduceIte, Nat.reduceEqDiff, v0, v2, v19, v20] <;> rfl)).trans rfl) ?_
              refine o_sk rfl ((wanted_of (b := true) rfl rfl rfl (by simp only [val_set, ↓reduceIte, Nat.reduceEqDiff, v0, v2, v19, v20] <;> rfl)).trans rfl) ?_
              refine o_sk rfl (wanted_no rfl rfl rfl (by simp only [val_set, ↓reduceIte, Nat.reduceEqDiff, v0, v2, v19, v20] <;> rfl)) ?_
              refine o_sk rfl (wanted_no rfl rfl rfl (by simp only [val_set, ↓reduceIte, Nat.reduceEqDiff, v0, v2, v19, v20] <;> rfl)) ?_
              refine o_sk rfl ((wanted_of (b := true) rfl rfl rfl (by simp only [val_set, ↓reduceIte, Nat.reduceEqDiff, v0, v2, v19, v20] <;> rfl)).trans rfl) ?_
              refine o_rd (r_pick (t := true) (by simp only [ev, envOf, val_set, ofValue, ofCell, ↓reduceIte, Nat.reduceEqDiff, v0, v2, v19, v20] <;> rfl) (fun _ => (by simp only [ev, envOf, val_set, ofValue, ofCell, ↓reduceIte, Nat.reduceEqDiff, v0, v2, v19, v20] <;> rfl)) (fun h => by cases h)) rfl rfl ?_
              refine o_rd (r_move (by simp only [ev, envOf, val_set, ofValue, ofCell, ↓reduceIte, Nat.reduceEqDiff, v0, v2, v19, v20] <;> rfl)) rfl rfl ?_
              refine o_sk rfl ((wanted_of (b := true) rfl rfl rfl (by simp only [val_set, ↓reduceIte, Nat.reduceEqDiff, v0, v2, v19, v20] <;> rfl)).trans rfl) ?_
              refine o_sk rfl ((wanted_of (b := true) rfl rfl rfl (by simp only [val_set, ↓reduceIte, Nat.reduceEqDiff, v0, v2, v19, v20] <;> rfl)).trans rfl) ?_
              refine o_rd (r_pick (t := true) (by simp only [ev, envOf, val_set, ofValue, ofCell, ↓reduceIte, Nat.reduceEqDiff, v0, v2, v19, v20] <;> rfl) (fun _ => (by simp only [ev, envOf, val_set, ofValue, ofCell, ↓reduceIte, Nat.reduceEqDiff, v0, v2, v19, v20] <;> rfl)) (fun h => by cases h)) rfl rfl ?_
              refine o_rd (r_assign (by simp only [ev, envOf, val_set, ofValue, ofCell, ↓reduceIte, Nat.reduceEqDiff, v0, v2, v19, v20] <;> rfl)) rfl rfl ?_
              refine o_nil ?_
              refine w_seq ?_
              refine w_region ?_
              refine o_rd (r_move (by simp only [ev, envOf, val_set, ofValue, ofCell, ↓reduceIte, Nat.reduceEqDiff, v0, v2, v19, v20] <;> rfl)) rfl rfl ?_
              refine o_rd (r_not (by simp only [ev, envOf, val_set, ofValue, ofCell, ↓reduceIte, Nat.reduceEqDiff, v0, v2, v19, v20] <;> rfl)) rfl rfl ?_
              refine o_rd (r_move (by simp only [ev, envOf, val_set, ofValue, ofCell, ↓reduceIte, Nat.reduceEqDiff, v0, v2, v19, v20] <;> rfl)) rfl rfl ?_
              refine o_sk rfl ((wanted_of (b := false) rfl rfl rfl (by simp only [val_set, ↓reduceIte, Nat.reduceEqDiff, v0, v2, v19, v20] <;> rfl)).trans rfl) ?_
              refine o_sk rfl ((wanted_of (b := false) rfl rfl rfl (by simp only [val_set, ↓reduceIte, Nat.reduceEqDiff, v0, v2, v19, v20] <;> rfl)).trans rfl) ?_
              refine o_sk rfl ((wanted_of (b := false) rfl rfl rfl (by simp only [val_set, ↓reduceIte, Nat.reduceEqDiff, v0, v2, v19, v20] <;> rfl)).trans rfl) ?_
              refine o_sk rfl (wanted_no rfl rfl rfl (by simp only [val_set, ↓reduceIte, Nat.reduceEqDiff, v0, v2, v19, v20] <;> rfl)) ?_
              refine o_sk rfl (wanted_no rfl rfl rfl (by simp only [val_set, ↓reduceIte, Nat.reduceEqDiff, v0, v2, v19, v20] <;> rfl)) ?_
              refine o_sk rfl ((wanted_of (b := false) rfl rfl rfl (by simp only [val_set, ↓reduceIte, Nat.reduceEqDiff, v0, v2, v19, v20] <;> rfl)).trans rfl) ?_
              refine o_sk rfl ((wanted_of (b := false) rfl rfl rfl (by simp only [val_set, ↓reduceIte, Nat.reduceEqDiff, v0, v2, v19, v20] <;> rfl)).trans rfl) ?_
              refine o_sk rfl (wanted_no rfl rfl rfl (by simp only [val_set, ↓reduceIte, Nat.reduceEqDiff, v0, v2, v19, v20] <;> rfl)) ?_
              refine o_sk rfl (wanted_no rfl rfl rfl (by simp only [val_set, ↓reduceIte, Nat.reduceEqDiff, v0, v2, v19, v20] <;> rfl)) ?_
              refine o_sk rfl ((wanted_of (b := false) rfl rfl rfl (by simp only [val_set, ↓reduceIte, Nat.reduceEqDiff, v0, v2, v19, v20] <;> rfl)).trans rfl) ?_
              refine o_rd (r_pick (t := false) (by simp only [ev, envOf, val_set, ofValue, ofCell, ↓reduceIte, Nat.reduceEqDiff, v0, v2, v19, v20] <;> rfl) (fun h => by cases h) (fun _ => (by simp only [ev, envOf, val_set, ofValue, ofCell, ↓reduceIte, Nat.reduceEqDiff, v0, v2, v19, v20] <;> rfl))) rfl rfl ?_
              refine o_nil ?_
              refine w_cond (t := false) (by simp only [ev, envOf, val_set, ofValue, ofCell, ↓reduceIte, Nat.reduceEqDiff, v0, v2, v19, v20] <;> rfl) (fun h => by cases h) (fun _ => ?_)
              refine w_skip ?_
              refine w_region ?_
              refine o_rd (r_addE (a := ((i : Nat) : Int)) (b := 1) (c := ((i + 1 : Nat) : Int)) (by simp only [ev, envOf, val_set, ofValue, ofCell, ↓reduceIte, Nat.reduceEqDiff, v0, v2, v19, v20] <;> rfl) (by simp only [ev, envOf, val_set, ofValue, ofCell, ↓reduceIte, Nat.reduceEqDiff, v0, v2, v19, v20] <;> rfl) (by omega) (by omega) (by omega)) rfl rfl ?_
              refine o_rd (r_move (by simp only [ev, envOf, val_set, ofValue, ofCell, ↓reduceIte, Nat.reduceEqDiff, v0, v2, v19, v20] <;> rfl)) rfl rfl ?_
              refine o_nil ?_
              exact ⟨m - 1, (by omega), _, H5, i + 1, rfl, (by simp only [val_set, ↓reduceIte, Nat.reduceEqDiff, v0, v2, v19, v20] <;> rfl), (by simp only [val_set, ↓reduceIte, Nat.reduceEqDiff, v0, v2, v19, v20] <;> rfl), (by simp only [val_set, ↓reduceIte, Nat.reduceEqDiff, v0, v2, v19, v20] <;> rfl), (by simp only [val_set, ↓reduceIte, Nat.reduceEqDiff, v0, v2, v19, v20] <;> rfl), W5, E5, (fun j h hj => by rcases Nat.lt_succ_iff_lt_or_eq.1 hj with h2 | h2 <;> first | exact hok j h h2 | (subst h2; rw [(List.getElem?_eq_some_iff.1 hc0).2]; unfold chP; omega)), (by omega)⟩
        · have hc6 := dec_f hB6
          first | refine w_exit (blk_exit ?_) | refine w_exit (show (0 = 0 → _) ∧ (0 ≠ 0 → _) from ⟨fun _ => ?_, fun c => absurd rfl c⟩)
          refine w_seq ?_
          refine w_region ?_
          refine o_rd (r_assign (by simp only [ev, envOf, val_set, ofValue, ofCell, ↓reduceIte, Nat.reduceEqDiff, v0, v2, v19, v20] <;> rfl)) rfl rfl ?_
          refine o_nil ?_
          refine w_ret ⟨.inr rfl, rfl, .bool (true), (show resultA Tryd.prog [.tmp 2] _ = _ by simp only [resultA, resultsA, envOf, val_set, ↓reduceIte, Nat.reduceEqDiff, Option.map_some, v0, v2, v19, v20] <;> rfl), ?_⟩
          try dsimp only
          exact ⟨congrArg AV.bool (Eq.symm (decide_eq_true ⟨hg1, by omega, hc4, fun i h => hok i h (by omega)⟩)), E5⟩
    · have hg2 := dec_t hg2
      refine o_sk rfl ((wanted_of (b := true) rfl rfl rfl (by simp only [val_set, ↓reduceIte, Nat.reduceEqDiff] <;> rfl)).trans rfl) ?_
      refine o_sk rfl ((wanted_of (b := true) rfl rfl rfl (by simp only [val_set, ↓reduceIte, Nat.reduceEqDiff] <;> rfl)).trans rfl) ?_
      refine o_sk rfl ((wanted_of (b := true) rfl rfl rfl (by simp only [val_set, ↓reduceIte, Nat.reduceEqDiff] <;> rfl)).trans rfl) ?_
      refine o_rd (r_pick (t := true) (by simp only [ev, envOf, val_set, ofValue, ofCell, ↓reduceIte, Nat.reduceEqDiff] <;> rfl) (fun _ => (by simp only [ev, envOf, val_set, ofValue, ofCell, ↓reduceIte, Nat.reduceEqDiff] <;> rfl)) (fun h => by cases h)) rfl rfl ?_
      refine o_nil ?_
      refine w_cond (t := true) (by simp only [ev, envOf, val_set, ofValue, ofCell, ↓reduceIte, Nat.reduceEqDiff] <;> rfl) (fun _ => ?_) (fun h => by cases h)
      refine w_seq ?_
      refine w_region ?_
      refine o_rd (r_assign (by simp only [ev, envOf, val_set, ofValue, ofCell, ↓reduceIte, Nat.reduceEqDiff] <;> rfl)) rfl rfl ?_
      refine o_nil ?_
      refine w_ret ⟨.inr rfl, rfl, .bool (false), (show resultA Tryd.prog [.tmp 2] _ = _ by simp only [resultA, resultsA, envOf, val_set, ↓reduceIte, Nat.reduceEqDiff, Option.map_some] <;> rfl), ?_⟩
      try dsimp only
      refine ⟨congrArg AV.bool (Eq.symm (decide_eq_false ?_)), E0⟩
      rintro ⟨h1, h2, h3, h4⟩
      first | exact absurd (by assumption) h1 | omega | (exact absurd h3 (by assumption)) | (have h5 := h4 i (by assumption); rw [(List.getElem?_eq_some_iff.1 hc0).2] at h5; unfold chP at h5; omega)
  · have hg1 := dec_t hg1
    refine o_sk rfl ((wanted_of (b := true) rfl rfl rfl (by simp only [val_set, ↓reduceIte, Nat.reduceEqDiff] <;> rfl)).trans rfl) ?_
    refine o_sk rfl ((wanted_of (b := true) rfl rfl rfl (by simp only [val_set, ↓reduceIte, Nat.reduceEqDiff] <;> rfl)).trans rfl) ?_
    refine o_sk rfl ((wanted_of (b := true) rfl rfl rfl (by simp only [val_set, ↓reduceIte, Nat.reduceEqDiff] <;> rfl)).trans rfl) ?_
    refine o_rd (r_pick (t := true) (by simp only [ev, envOf, val_set, ofValue, ofCell, ↓reduceIte, Nat.reduceEqDiff] <;> rfl) (fun _ => (by simp only [ev, envOf, val_set, ofValue, ofCell, ↓reduceIte, Nat.reduceEqDiff] <;> rfl)) (fun h => by cases h)) rfl rfl ?_
    refine o_rd (r_move (by simp only [ev, envOf, val_set, ofValue, ofCell, ↓reduceIte, Nat.reduceEqDiff] <;> rfl)) rfl rfl ?_
    refine o_sk rfl ((wanted_of (b := true) rfl rfl rfl (by simp only [val_set, ↓reduceIte, Nat.reduceEqDiff] <;> rfl)).trans rfl) ?_
    refine o_sk rfl ((wanted_of (b := true) rfl rfl rfl (by simp only [val_set, ↓reduceIte, Nat.reduceEqDiff] <;> rfl)).trans rfl) ?_
    refine o_sk rfl ((wanted_of (b := true) rfl rfl rfl (by simp only [val_set, ↓reduceIte, Nat.reduceEqDiff] <;> rfl)).trans rfl) ?_
    refine o_rd (r_pick (t := true) (by simp only [ev, envOf, val_set, ofValue, ofCell, ↓reduceIte, Nat.reduceEqDiff] <;> rfl) (fun _ => (by simp only [ev, envOf, val_set, ofValue, ofCell, ↓reduceIte, Nat.reduceEqDiff] <;> rfl)) (fun h => by cases h)) rfl rfl ?_
    refine o_nil ?_
    refine w_cond (t := true) (by simp only [ev, envOf, val_set, ofValue, ofCell, ↓reduceIte, Nat.reduceEqDiff] <;> rfl) (fun _ => ?_) (fun h => by cases h)
    refine w_seq ?_
    refine w_region ?_
    refine o_rd (r_assign (by simp only [ev, envOf, val_set, ofValue, ofCell, ↓reduceIte, Nat.reduceEqDiff] <;> rfl)) rfl rfl ?_
    refine o_nil ?_
    refine w_ret ⟨.inr rfl, rfl, .bool (false), (show resultA Tryd.prog [.tmp 2] _ = _ by simp only [resultA, resultsA, envOf, val_set, ↓reduceIte, Nat.reduceEqDiff, Option.map_some] <;> rfl), ?_⟩
    try dsimp only
    refine ⟨congrArg AV.bool (Eq.symm (decide_eq_false ?_)), E0⟩
    rintro ⟨h1, h2, h3, h4⟩
    first | exact absurd (by assumption) h1 | omega | (exact absurd h3 (by assumption)) | (have h5 := h4 i (by assumption); rw [(List.getElem?_eq_some_iff.1 hc0).2] at h5; unfold chP at h5; omega)
end Go.Proofs.YtpdphdbphhaekaaDoor.Vs
