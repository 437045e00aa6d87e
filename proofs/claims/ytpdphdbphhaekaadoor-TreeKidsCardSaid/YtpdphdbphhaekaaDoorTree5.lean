/-
  Whether an expression begins with the sign of a receive.
-/
import Derived.Test.YtpdphdbphhaekaaDoorTree4
set_option autoImplicit false
set_option linter.unusedVariables false
set_option linter.unusedSimpArgs false
namespace Go.Proofs.YtpdphdbphhaekaaDoor.Vs
open Go.VI Go.Proofs
variable {orc : CallF}
/-- a node that goes on at its first kid has one, which stands ahead of it -/
def GoesOn (l : List ND) (n : Nat) : Prop := ∀ j, (h : j < l.length) → j < n → 22 ≤ l[j].k → l[j].k ≤ 25 → ∃ (a : Nat) (r : List Int), l[j].ks = (a : Int) :: r ∧ a < j
def recvF (l : List ND) : Nat → Nat → Bool
  | 0, _ => false
  | f + 1, i => match l[i]? with
    | none => false
    | some v => if v.k = 21 then decide (v.n = 3) else if 22 ≤ v.k ∧ v.k ≤ 25 then (match v.ks with | a :: _ => recvF l f a.toNat | [] => false) else false
theorem recv_fuel {l : List ND} {n : Nat} (G : GoesOn l n) : ∀ (f g i : Nat), i < f → i < g → i < n → recvF l f i = recvF l g i
  | 0, _, _, h, _, _ => by omega
  | _, 0, _, _, h, _ => by omega
  | f + 1, g + 1, i, h1, h2, hn => by
    simp only [recvF]
    cases hl : l[i]? with
    | none => rfl
    | some v =>
      obtain ⟨hi, hv⟩ := List.getElem?_eq_some_iff.1 hl
      simp only
      by_cases c : v.k = 21
      · rw [if_pos c, if_pos c]
      · rw [if_neg c, if_neg c]
        by_cases d : 22 ≤ v.k ∧ v.k ≤ 25
        · rw [if_pos d, if_pos d]
          obtain ⟨a, r, e, ha⟩ := G i hi hn (by rw [hv]; exact d.1) (by rw [hv]; exact d.2)
          rw [hv] at e
          rw [e]
          simp only [Int.toNat_natCast]
          exact recv_fuel G f g a (by omega) (by omega) (by omega)
        · rw [if_neg d, if_neg d]
def recv (l : List ND) (i : Nat) : Bool := recvF l (i + 1) i
theorem recv_step {l : List ND} {n i : Nat} (G : GoesOn l n) (hi : i < l.length) (hn : i < n) : recv l i = if l[i].k = 21 then decide (l[i].n = 3) else if 22 ≤ l[i].k ∧ l[i].k ≤ 25 then (match l[i].ks with | a :: _ => recv l a.toNat | [] => false) else false := by
  have h0 : recv l i = match l[i]? with
    | none => false
    | some v => if v.k = 21 then decide (v.n = 3) else if 22 ≤ v.k ∧ v.k ≤ 25 then (match v.ks with | a :: _ => recvF l i a.toNat | [] => false) else false := by
    show recvF l (i + 1) i = _
    simp only [recvF]
  rw [h0, List.getElem?_eq_getElem hi]
  by_cases c : l[i].k = 21
  · simp only [if_pos c]
  · simp only [if_neg c]
    by_cases d : 22 ≤ l[i].k ∧ l[i].k ≤ 25
    · simp only [if_pos d]
      obtain ⟨a, r, e, ha⟩ := G i hi hn d.1 d.2
      rw [e]
      simp only [Int.toNat_natCast]
      exact recv_fuel G i (a + 1) a (by omega) (by omega) (by omega)
    · simp only [if_neg d]
set_option maxRecDepth 100000 in
set_option maxHeartbeats 4000000 in
theorem receives_fin (ho : NoOrcBut [8, 64, 65] orc) {H0 : AH} (W0 : Wf H0) (l : List ND) (sl : AV) (n i0 : Nat) (hL : NS H0 l sl) (G : GoesOn l n) (hin0 : i0 < n) (hnl0 : n ≤ l.length) : Fin Tryd.prog orc 42 [sl, .int .i64 (((i0 : Nat) : Int))] H0 (fun r H' => r = .bool (recv l i0) ∧ Ext H0 H') := by
  have E0 := Ext.refl W0
  refine fin_of Tryd.func42 rfl (by rw [Tryd.ntmps42]; simp) (ho _ rfl _ _) ?_
  rw [Tryd.ntmps42]
  refine w_seq ?_
  refine w_region ?_
  refine o_rd (r_assign (by simp only [ev, envOf, val_set, ofValue, ofCell, ↓reduceIte, Nat.reduceEqDiff] <;> rfl)) rfl rfl ?_
  refine o_nil ?_
  refine w_block ?_
  refine w_loop (fun m s => ∃ (e : Env) (H : AH) (i : Nat), s = ⟨e, H, []⟩ ∧ e.val 0 = sl ∧ e.val 1 = .int .i64 (((i : Nat) : Int)) ∧ e.val 4 = .bool (false) ∧ Wf H ∧ Ext H0 H ∧ (i < n) ∧ (n ≤ l.length) ∧ (recv l i = recv l i0) ∧ (i = m)) (i0) ⟨_, H0, i0, rfl, (by simp only [val_set, ↓reduceIte, Nat.reduceEqDiff] <;> rfl), (by simp only [val_set, ↓reduceIte, Nat.reduceEqDiff] <;> rfl), (by simp only [val_set, ↓reduceIte, Nat.reduceEqDiff] <;> rfl), W0, E0, hin0, hnl0, rfl, rfl⟩ ?_
  intro m s hi
  obtain ⟨e, H1, i, rfl, v0, v1, v4, W1, E1, hin, hnl, hre, him⟩ := hi
  refine w_block ?_
  refine w_seq ?_
  refine w_region ?_
  refine o_rd (r_move (by simp only [ev, envOf, val_set, ofValue, ofCell, ↓reduceIte, Nat.reduceEqDiff, v0, v1, v4] <;> rfl)) rfl rfl ?_
  refine o_rd (r_move (by simp only [ev, envOf, val_set, ofValue, ofCell, ↓reduceIte, Nat.reduceEqDiff, v0, v1, v4] <;> rfl)) rfl rfl ?_
  have hi1 : i < l.length := by omega
  have hstep := recv_step G hi1 hin
  obtain ⟨loc1, off1, cap1, sk, rfl, hr1, hsk⟩ := hL.get hi1
  refine o_rd (r_indexAddr Tryd.underlying28 Ty.csz24 (by simp only [ev, envOf, val_set, ofValue, ofCell, ↓reduceIte, Nat.reduceEqDiff, v0, v1, v4] <;> rfl) (by simp only [ev, envOf, val_set, ofValue, ofCell, ↓reduceIte, Nat.reduceEqDiff, v0, v1, v4] <;> rfl) hi1) rfl rfl ?_
  refine o_rd (r_loadN Ty.agg24 Ty.csz24 (by simp only [ev, envOf, val_set, ofValue, ofCell, ↓reduceIte, Nat.reduceEqDiff, v0, v1, v4] <;> rfl) (Ext.read (H := H0) (by assumption) hr1)) rfl rfl ?_
  refine o_nw W1 (a_alloc Ty.zero24) rfl rfl rfl (by simp) ?_; intro H2 n2 W2 X2 A2
  have A2 : H2.at H1.n = some (.row [.int .i64 (0), .int .i64 (0), .nils, .str ([]), .int .i64 (0)] 24 false none) := A2
  have E2 := E1.trans X2
  have g2 : H0.n ≤ H1.n := E1.n
  refine o_st W2 (by simp only [ev, envOf, val_set, ofValue, ofCell, ↓reduceIte, Nat.reduceEqDiff, v0, v1, v4] <;> rfl) (by simp only [ev, envOf, val_set, ofValue, ofCell, ↓reduceIte, Nat.reduceEqDiff, v0, v1, v4] <;> rfl) A2 Ty.csz24 rfl (Nat.le_of_ble_eq_true rfl) (by first | rfl | (exact (NA.of hsk).ones)) rfl rfl ?_; intro H3 n3 W3 A3 K3
  have A3 : H3.at H1.n = some (.row [.int .i64 (l[i].k), .int .i64 (l[i].at_), sk, .str (l[i].nm), .int .i64 (l[i].n)] 24 false none) := A3
  have E3 := Ext.put W0 E2 (by have := E2.n; omega) K3 n3 W3
  refine o_nil ?_
  refine w_seq ?_
  refine w_region ?_
  refine o_rd (r_fieldAddr Ty.fo24_0 (by simp only [ev, envOf, val_set, ofValue, ofCell, ↓reduceIte, Nat.reduceEqDiff, v0, v1, v4] <;> rfl)) rfl rfl ?_
  refine o_rd (r_load1 (v := .int .i64 (l[i].k)) Ty.agg3 (by simp only [ev, envOf, val_set, ofValue, ofCell, ↓reduceIte, Nat.reduceEqDiff, v0, v1, v4] <;> rfl) (read_mt A3 (Nat.le_of_ble_eq_true rfl))) rfl rfl ?_
  refine o_nil ?_
  refine w_block ?_
  refine w_seq ?_
  refine w_region ?_
  refine o_rd (r_eq (a := l[i].k) (b := 21) (by simp only [ev, envOf, val_set, ofValue, ofCell, ↓reduceIte, Nat.reduceEqDiff, v0, v1, v4] <;> rfl) (by simp only [ev, envOf, val_set, ofValue, ofCell, ↓reduceIte, Nat.reduceEqDiff, v0, v1, v4] <;> rfl)) rfl rfl ?_
  refine o_rd (r_assign (by simp only [ev, envOf, val_set, ofValue, ofCell, ↓reduceIte, Nat.reduceEqDiff, v0, v1, v4] <;> rfl)) rfl rfl ?_
  refine o_nil ?_
  refine w_cond (by simp only [ev, envOf, val_set, ofValue, ofCell, ↓reduceIte, Nat.reduceEqDiff, v0, v1, v4] <;> rfl) (fun hB4 => ?_) (fun hB4 => ?_)
  · have hc4 := dec_t hB4
    refine w_seq ?_
    refine w_region ?_
    refine o_rd (r_fieldAddr Ty.fo24_4 (by simp only [ev, envOf, val_set, ofValue, ofCell, ↓reduceIte, Nat.reduceEqDiff, v0, v1, v4] <;> rfl)) rfl rfl ?_
    refine o_rd (r_load1 (v := .int .i64 (l[i].n)) Ty.agg3 (by simp only [ev, envOf, val_set, ofValue, ofCell, ↓reduceIte, Nat.reduceEqDiff, v0, v1, v4] <;> rfl) (read_mt A3 (Nat.le_of_ble_eq_true rfl))) rfl rfl ?_
    refine o_rd (r_eq (a := l[i].n) (b := 3) (by simp only [ev, envOf, val_set, ofValue, ofCell, ↓reduceIte, Nat.reduceEqDiff, v0, v1, v4] <;> rfl) (by simp only [ev, envOf, val_set, ofValue, ofCell, ↓reduceIte, Nat.reduceEqDiff, v0, v1, v4] <;> rfl)) rfl rfl ?_
    refine o_rd (r_assign (by simp only [ev, envOf, val_set, ofValue, ofCell, ↓reduceIte, Nat.reduceEqDiff, v0, v1, v4] <;> rfl)) rfl rfl ?_
    refine o_nil ?_
    refine w_ret ⟨.inr rfl, rfl, .bool (decide (l[i].n = 3)), (show resultA Tryd.prog [.tmp 4] _ = _ by simp only [resultA, resultsA, envOf, val_set, ↓reduceIte, Nat.reduceEqDiff, Option.map_some, v0, v1, v4] <;> rfl), ?_⟩
    try dsimp only
    exact ⟨congrArg AV.bool (by rw [← hre, hstep, if_pos (by assumption)]), E3⟩
  · have hc4 := dec_f hB4
    refine w_seq ?_
    refine w_seq ?_
    refine w_region ?_
    refine o_rd (r_eq (a := l[i].k) (b := 22) (by simp only [ev, envOf, val_set, ofValue, ofCell, ↓reduceIte, Nat.reduceEqDiff, v0, v1, v4] <;> rfl) (by simp only [ev, envOf, val_set, ofValue, ofCell, ↓reduceIte, Nat.reduceEqDiff, v0, v1, v4] <;> rfl)) rfl rfl ?_
    refine o_rd (r_assign (by simp only [ev, envOf, val_set, ofValue, ofCell, ↓reduceIte, Nat.reduceEqDiff, v0, v1, v4] <;> rfl)) rfl rfl ?_
    refine o_nil ?_
    refine w_cond (by simp only [ev, envOf, val_set, ofValue, ofCell, ↓reduceIte, Nat.reduceEqDiff, v0, v1, v4] <;> rfl) (fun hB5 => ?_) (fun hB5 => ?_)
    · have hc5 := dec_t hB5
      refine w_skip ?_
      refine w_cond (t := true) (Eq.trans (show _ = some (AV.bool (decide (l[i].k = 22))) from (by simp only [ev, envOf, val_set, ofValue, ofCell, ↓reduceIte, Nat.reduceEqDiff, v0, v1, v4] <;> rfl)) (by rw [hB5])) (fun _ => ?_) (fun h => by cases h)
      refine w_region ?_
      refine o_rd (r_fieldAddr Ty.fo24_2 (by simp only [ev, envOf, val_set, ofValue, ofCell, ↓reduceIte, Nat.reduceEqDiff, v0, v1, v4] <;> rfl)) rfl rfl ?_
      refine o_rd (r_load1 (v := sk) Ty.agg22 (by simp only [ev, envOf, val_set, ofValue, ofCell, ↓reduceIte, Nat.reduceEqDiff, v0, v1, v4] <;> rfl) (read_mt A3 (Nat.le_of_ble_eq_true rfl))) rfl rfl ?_
      have hkk : 22 ≤ l[i].k ∧ l[i].k ≤ 25 := by omega
      obtain ⟨a, r, hks, hai⟩ := G i hi1 hin hkk.1 hkk.2
      have hk0 : 0 < l[i].ks.length := by rw [hks]; simp
      obtain ⟨loc2, off2, cap2, rfl, hr2⟩ := hsk.get hk0
      have hr2 : H0.read loc2 (off2 + 0 * 1) 1 = some [.int .i64 (a : Int)] := by have h := hr2; simp only [hks, List.getElem_cons_zero] at h; exact h
      refine o_rd (r_indexAddr Tryd.underlying22 Ty.csz3 (by simp only [ev, envOf, val_set, ofValue, ofCell, ↓reduceIte, Nat.reduceEqDiff, v0, v1, v4] <;> rfl) (by simp only [ev, envOf, val_set, ofValue, ofCell, ↓reduceIte, Nat.reduceEqDiff, v0, v1, v4] <;> rfl) hk0) rfl rfl ?_
      refine o_rd (r_load1 Ty.agg3 (by simp only [ev, envOf, val_set, ofValue, ofCell, ↓reduceIte, Nat.reduceEqDiff, v0, v1, v4] <;> rfl) (Ext.read (H := H0) (by assumption) hr2)) rfl rfl ?_
      refine o_rd (r_assign (by simp only [ev, envOf, val_set, ofValue, ofCell, ↓reduceIte, Nat.reduceEqDiff, v0, v1, v4] <;> rfl)) rfl rfl ?_
      refine o_nil ?_
      exact ⟨a, (by omega), _, H3, a, rfl, (by simp only [val_set, ↓reduceIte, Nat.reduceEqDiff, v0, v1, v4] <;> rfl), (by simp only [val_set, ↓reduceIte, Nat.reduceEqDiff, v0, v1, v4] <;> rfl), (by simp only [val_set, ↓reduceIte, Nat.reduceEqDiff, v0, v1, v4] <;> rfl), W3, E3, (by omega), (by assumption), (by rw [← hre, hstep, if_neg (by omega), if_pos hkk, hks]; simp), rfl⟩
    · have hc5 := dec_f hB5
      refine w_seq ?_
      refine w_region ?_
      refine o_rd (r_eq (a := l[i].k) (b := 23) (by simp only [ev, envOf, val_set, ofValue, ofCell, ↓reduceIte, Nat.reduceEqDiff, v0, v1, v4] <;> rfl) (by simp only [ev, envOf, val_set, ofValue, ofCell, ↓reduceIte, Nat.reduceEqDiff, v0, v1, v4] <;> rfl)) rfl rfl ?_
      refine o_rd (r_assign (by simp only [ev, envOf, val_set, ofValue, ofCell, ↓reduceIte, Nat.reduceEqDiff, v0, v1, v4] <;> rfl)) rfl rfl ?_
      refine o_nil ?_
      refine w_cond (by simp only [ev, envOf, val_set, ofValue, ofCell, ↓reduceIte, Nat.reduceEqDiff, v0, v1, v4] <;> rfl) (fun hB6 => ?_) (fun hB6 => ?_)
      · have hc6 := dec_t hB6
        refine w_skip ?_
        refine w_cond (t := true) (Eq.trans (show _ = some (AV.bool (decide (l[i].k = 23))) from (by simp only [ev, envOf, val_set, ofValue, ofCell, ↓reduceIte, Nat.reduceEqDiff, v0, v1, v4] <;> rfl)) (by rw [hB6])) (fun _ => ?_) (fun h => by cases h)
        refine w_region ?_
        refine o_rd (r_fieldAddr Ty.fo24_2 (by simp only [ev, envOf, val_set, ofValue, ofCell, ↓reduceIte, Nat.reduceEqDiff, v0, v1, v4] <;> rfl)) rfl rfl ?_
        refine o_rd (r_load1 (v := sk) Ty.agg22 (by simp only [ev, envOf, val_set, ofValue, ofCell, ↓reduceIte, Nat.reduceEqDiff, v0, v1, v4] <;> rfl) (read_mt A3 (Nat.le_of_ble_eq_true rfl))) rfl rfl ?_
        have hkk : 22 ≤ l[i].k ∧ l[i].k ≤ 25 := by omega
        obtain ⟨a, r, hks, hai⟩ := G i hi1 hin hkk.1 hkk.2
        have hk0 : 0 < l[i].ks.length := by rw [hks]; simp
        obtain ⟨loc2, off2, cap2, rfl, hr2⟩ := hsk.get hk0
        have hr2 : H0.read loc2 (off2 + 0 * 1) 1 = some [.int .i64 (a : Int)] := by have h := hr2; simp only [hks, List.getElem_cons_zero] at h; exact h
        refine o_rd (r_indexAddr Tryd.underlying22 Ty.csz3 (by simp only [ev, envOf, val_set, ofValue, ofCell, ↓reduceIte, Nat.reduceEqDiff, v0, v1, v4] <;> rfl) (by simp only [ev, envOf, val_set, ofValue, ofCell, ↓reduceIte, Nat.reduceEqDiff, v0, v1, v4] <;> rfl) hk0) rfl rfl ?_
        refine o_rd (r_load1 Ty.agg3 (by simp only [ev, envOf, val_set, ofValue, ofCell, ↓reduceIte, Nat.reduceEqDiff, v0, v1, v4] <;> rfl) (Ext.read (H := H0) (by assumption) hr2)) rfl rfl ?_
        refine o_rd (r_assign (by simp only [ev, envOf, val_set, ofValue, ofCell, ↓reduceIte, Nat.reduceEqDiff, v0, v1, v4] <;> rfl)) rfl rfl ?_
        refine o_nil ?_
        exact ⟨a, (by omega), _, H3, a, rfl, (by simp only [val_set, ↓reduceIte, Nat.reduceEqDiff, v0, v1, v4] <;> rfl), (by simp only [val_set, ↓reduceIte, Nat.reduceEqDiff, v0, v1, v4] <;> rfl), (by simp only [val_set, ↓reduceIte, Nat.reduceEqDiff, v0, v1, v4] <;> rfl), W3, E3, (by omega), (by assumption), (by rw [← hre, hstep, if_neg (by omega), if_pos hkk, hks]; simp), rfl⟩
      · have hc6 := dec_f hB6
        refine w_seq ?_
        refine w_region ?_
        refine o_rd (r_eq (a := l[i].k) (b := 24) (by simp only [ev, envOf, val_set, ofValue, ofCell, ↓reduceIte, Nat.reduceEqDiff, v0, v1, v4] <;> rfl) (by simp only [ev, envOf, val_set, ofValue, ofCell, ↓reduceIte, Nat.reduceEqDiff, v0, v1, v4] <;> rfl)) rfl rfl ?_
        refine o_rd (r_assign (by simp only [ev, envOf, val_set, ofValue, ofCell, ↓reduceIte, Nat.reduceEqDiff, v0, v1, v4] <;> rfl)) rfl rfl ?_
        refine o_nil ?_
        refine w_cond (by simp only [ev, envOf, val_set, ofValue, ofCell, ↓reduceIte, Nat.reduceEqDiff, v0, v1, v4] <;> rfl) (fun hB7 => ?_) (fun hB7 => ?_)
        · have hc7 := dec_t hB7
          refine w_skip ?_
          refine w_cond (t := true) (Eq.trans (show _ = some (AV.bool (decide (l[i].k = 24))) from (by simp only [ev, envOf, val_set, ofValue, ofCell, ↓reduceIte, Nat.reduceEqDiff, v0, v1, v4] <;> rfl)) (by rw [hB7])) (fun _ => ?_) (fun h => by cases h)
          refine w_region ?_
          refine o_rd (r_fieldAddr Ty.fo24_2 (by simp only [ev, envOf, val_set, ofValue, ofCell, ↓reduceIte, Nat.reduceEqDiff, v0, v1, v4] <;> rfl)) rfl rfl ?_
          refine o_rd (r_load1 (v := sk) Ty.agg22 (by simp only [ev, envOf, val_set, ofValue, ofCell, ↓reduceIte, Nat.reduceEqDiff, v0, v1, v4] <;> rfl) (read_mt A3 (Nat.le_of_ble_eq_true rfl))) rfl rfl ?_
          have hkk : 22 ≤ l[i].k ∧ l[i].k ≤ 25 := by omega
          obtain ⟨a, r, hks, hai⟩ := G i hi1 hin hkk.1 hkk.2
          have hk0 : 0 < l[i].ks.length := by rw [hks]; simp
          obtain ⟨loc2, off2, cap2, rfl, hr2⟩ := hsk.get hk0
          have hr2 : H0.read loc2 (off2 + 0 * 1) 1 = some [.int .i64 (a : Int)] := by have h := hr2; simp only [hks, List.getElem_cons_zero] at h; exact h
          refine o_rd (r_indexAddr Tryd.underlying22 Ty.csz3 (by simp only [ev, envOf, val_set, ofValue, ofCell, ↓reduceIte, Nat.reduceEqDiff, v0, v1, v4] <;> rfl) (by simp only [ev, envOf, val_set, ofValue, ofCell, ↓reduceIte, Nat.reduceEqDiff, v0, v1, v4] <;> rfl) hk0) rfl rfl ?_
          refine o_rd (r_load1 Ty.agg3 (by simp only [ev, envOf, val_set, ofValue, ofCell, ↓reduceIte, Nat.reduceEqDiff, v0, v1, v4] <;> rfl) (Ext.read (H := H0) (by assumption) hr2)) rfl rfl ?_
          refine o_rd (r_assign (by simp only [ev, envOf, val_set, ofValue, ofCell, ↓reduceIte, Nat.reduceEqDiff, v0, v1, v4] <;> rfl)) rfl rfl ?_
          refine o_nil ?_
          exact ⟨a, (by omega), _, H3, a, rfl, (by simp only [val_set, ↓reduceIte, Nat.reduceEqDiff, v0, v1, v4] <;> rfl), (by simp only [val_set, ↓reduceIte, Nat.reduceEqDiff, v0, v1, v4] <;> rfl), (by simp only [val_set, ↓reduceIte, Nat.reduceEqDiff, v0, v1, v4] <;> rfl), W3, E3, (by omega), (by assumption), (by rw [← hre, hstep, if_neg (by omega), if_pos hkk, hks]; simp), rfl⟩
        · have hc7 := dec_f hB7
          refine w_region ?_
          refine o_rd (r_eq (a := l[i].k) (b := 25) (by simp only [ev, envOf, val_set, ofValue, ofCell, ↓reduceIte, Nat.reduceEqDiff, v0, v1, v4] <;> rfl) (by simp only [ev, envOf, val_set, ofValue, ofCell, ↓reduceIte, Nat.reduceEqDiff, v0, v1, v4] <;> rfl)) rfl rfl ?_
          refine o_rd (r_assign (by simp only [ev, envOf, val_set, ofValue, ofCell, ↓reduceIte, Nat.reduceEqDiff, v0, v1, v4] <;> rfl)) rfl rfl ?_
          refine o_nil ?_
          refine w_cond (by simp only [ev, envOf, val_set, ofValue, ofCell, ↓reduceIte, Nat.reduceEqDiff, v0, v1, v4] <;> rfl) (fun hB8 => ?_) (fun hB8 => ?_)
          · have hc8 := dec_t hB8
            refine w_region ?_
            refine o_rd (r_fieldAddr Ty.fo24_2 (by simp only [ev, envOf, val_set, ofValue, ofCell, ↓reduceIte, Nat.reduceEqDiff, v0, v1, v4] <;> rfl)) rfl rfl ?_
            refine o_rd (r_load1 (v := sk) Ty.agg22 (by simp only [ev, envOf, val_set, ofValue, ofCell, ↓reduceIte, Nat.reduceEqDiff, v0, v1, v4] <;> rfl) (read_mt A3 (Nat.le_of_ble_eq_true rfl))) rfl rfl ?_
            have hkk : 22 ≤ l[i].k ∧ l[i].k ≤ 25 := by omega
            obtain ⟨a, r, hks, hai⟩ := G i hi1 hin hkk.1 hkk.2
            have hk0 : 0 < l[i].ks.length := by rw [hks]; simp
            obtain ⟨loc2, off2, cap2, rfl, hr2⟩ := hsk.get hk0
            have hr2 : H0.read loc2 (off2 + 0 * 1) 1 = some [.int .i64 (a : Int)] := by have h := hr2; simp only [hks, List.getElem_cons_zero] at h; exact h
            refine o_rd (r_indexAddr Tryd.underlying22 Ty.csz3 (by simp only [ev, envOf, val_set, ofValue, ofCell, ↓reduceIte, Nat.reduceEqDiff, v0, v1, v4] <;> rfl) (by simp only [ev, envOf, val_set, ofValue, ofCell, ↓reduceIte, Nat.reduceEqDiff, v0, v1, v4] <;> rfl) hk0) rfl rfl ?_
            refine o_rd (r_load1 Ty.agg3 (by simp only [ev, envOf, val_set, ofValue, ofCell, ↓reduceIte, Nat.reduceEqDiff, v0, v1, v4] <;> rfl) (Ext.read (H := H0) (by assumption) hr2)) rfl rfl ?_
            refine o_rd (r_assign (by simp only [ev, envOf, val_set, ofValue, ofCell, ↓reduceIte, Nat.reduceEqDiff, v0, v1, v4] <;> rfl)) rfl rfl ?_
            refine o_nil ?_
            exact ⟨a, (by omega), _, H3, a, rfl, (by simp only [val_set, ↓reduceIte, Nat.reduceEqDiff, v0, v1, v4] <;> rfl), (by simp only [val_set, ↓reduceIte, Nat.reduceEqDiff, v0, v1, v4] <;> rfl), (by simp only [val_set, ↓reduceIte, Nat.reduceEqDiff, v0, v1, v4] <;> rfl), W3, E3, (by omega), (by assumption), (by rw [← hre, hstep, if_neg (by omega), if_pos hkk, hks]; simp), rfl⟩
          · have hc8 := dec_f hB8
            refine w_seq ?_
            refine w_region ?_
            refine o_rd (r_assign (by simp only [ev, envOf, val_set, ofValue, ofCell, ↓reduceIte, Nat.reduceEqDiff, v0, v1, v4] <;> rfl)) rfl rfl ?_
            refine o_nil ?_
            refine w_ret ⟨.inr rfl, rfl, .bool (false), (show resultA Tryd.prog [.tmp 4] _ = _ by simp only [resultA, resultsA, envOf, val_set, ↓reduceIte, Nat.reduceEqDiff, Option.map_some, v0, v1, v4] <;> rfl), ?_⟩
            try dsimp only
            exact ⟨congrArg AV.bool (by rw [← hre, hstep, if_neg (by omega), if_neg (by omega)]), E3⟩
end Go.Proofs.YtpdphdbphhaekaaDoor.Vs
