/-
 The scanner: single tokens.
-/
import Derived.Test.YtehmhhlhlipbnaaScan1
set_option autoImplicit false
set_option linter.unusedVariables false
set_option linter.unusedSimpArgs false
set_option maxRecDepth 100000
set_option maxHeartbeats 4000000
namespace Go.Proofs.Ytehmhhlhlipbnaa.Vs
open Go.VI Go.Proofs
variable {orc : CallF}
structure TK where
 k : Int
 at_ : Int
 len : Int
 num : Int
def TK.av (t : TK) : AV := .agg [.int .i64 t.k, .int .i64 t.at_, .int .i64 t.len, .int .i64 t.num]
theorem sb_caps {H : AH} {el : TypeId} {l : List UInt8} {loc : VI.Loc} {off cap : Nat} (h : SB H el l (.sl loc off l.length cap)) : H.read loc off l.length = some (bytesA l) ∧ l.length ≤ cap ∧ cutOk H el loc = true := by
 cases h with | sl _ _ _ _ hr hc hb hcut => exact ⟨hr, hc, hcut⟩
def wordF (tx : Nat → List UInt8) (l : List UInt8) : TK × Int :=
 if kindF tx (l.take (runF isWor l)) ≠ 0 then (⟨kindF tx (l.take (runF isWor l)), 0, (runF isWor l : Nat), 0⟩, 0)
 else if 32 < ((runF isWor l : Nat) : Int) then (⟨0, 0, 0, 0⟩, 13) else (⟨1, 0, (runF isWor l : Nat), 0⟩, 0)
def digV (c : UInt8) : Int := wrapA .i64 (wrapA .u8 ((c.toNat : Int) - 48))
def numGo : List UInt8 → Int → Option Int
 | [], v => some v
 | c :: r, v => if wrapA .i64 (Int.tdiv (wrapA .i64 (9223372036854775807 - digV c)) 10) < v then none else numGo r (wrapA .i64 (wrapA .i64 (10 * v) + digV c))
def numF (l : List UInt8) : TK × Int :=
 if (1 < runF isDig l ∧ ((l.headD 0).toNat : Int) = 48) ∨ (runF isDig l < l.length ∧ isLet (l.getD (runF isDig l) 0) = true) then (⟨0, 0, 0, 0⟩, 12)
 else match numGo (l.take (runF isDig l)) 0 with
  | none => (⟨0, 0, 0, 0⟩, 12)
  | some v => (⟨2, 0, (runF isDig l : Nat), v⟩, 0)
def signGo (tx : Nat → List UInt8) (l : List UInt8) : Nat → TK × Int
 | 0 => (⟨0, 0, 0, 0⟩, 11)
 | n + 1 => if kindF tx (l.take (n + 1)) ≠ 0 then (⟨kindF tx (l.take (n + 1)), 0, ((n + 1 : Nat) : Int), 0⟩, 0) else signGo tx l n
def signF (tx : Nat → List UInt8) (l : List UInt8) : TK × Int := signGo tx l (min 3 l.length)
def tokF (tx : Nat → List UInt8) (l : List UInt8) : TK × Int :=
 if isLet (l.headD 0) = true then wordF tx l else if isDig (l.headD 0) = true then numF l else signF tx l
def tup2 (p : TK × Int) : AV := .tup [p.1.av, .int .i64 p.2]
theorem head_at {l : List UInt8} (h : 0 < l.length) : l.headD 0 = l[0] := by
 cases l with
 | nil => simp at h
 | cons c r => rfl
theorem numGo_drop {l : List UInt8} {i : Nat} {v : Int} (h : i < l.length) : numGo (l.drop i) v = if wrapA .i64 (Int.tdiv (wrapA .i64 (9223372036854775807 - digV l[i])) 10) < v then none else numGo (l.drop (i + 1)) (wrapA .i64 (wrapA .i64 (10 * v) + digV l[i])) := by
 rw [List.drop_eq_getElem_cons h]; rfl
theorem word_fin (ho : NoOrcBut [7, 21, 69, 81] orc) {H0 : AH} (W0 : Wf H0) (ho81 : ∃ sg, ∀ H, orc 81 [] H = some (.ret sg, H)) (tx : Nat → List UInt8) (ho69 : ∀ k : Nat, k < 67 → ∀ H, orc 69 [.int .i64 (k : Int)] H = some (.ret (.str (tx k)), H)) (l : List UInt8) (loc1 : VI.Loc) (off1 cap1 : Nat) (hS : SB H0 5 l (.sl loc1 off1 l.length cap1)) (hl0 : 0 < l.length) : Fin Try.prog orc 32 [.sl loc1 (off1) (l.length) cap1] H0 (fun r H' => r = tup2 (wordF tx l) ∧ Ext H0 H') := by
 have E0 := Ext.refl W0
 have hlb := hS.bound; obtain ⟨hr1, hc1, hcut1⟩ := sb_caps hS; have hrl := runF_le isWor l
 refine fin_of Try.func32 rfl (by rw [Try.ntmps32]; simp) (ho _ rfl _ _) ?_
 rw [Try.ntmps32]
 refine w_sr ?_
 refine o_nw W0 (a_alloc Ty.zero47) rfl rfl rfl (by simp) ?_; intro H1 n1 W1 X1 A1
 have A1 : H1.at H0.n = some (.row [.int .i64 (0), .int .i64 (0), .int .i64 (0), .int .i64 (0)] 47 false none) := A1
 have E1 := E0.trans X1
 have g1 : H0.n ≤ H0.n := E0.n
 refine o_as ?_
 refine o_nil ?_
 refine w_sr ?_
 refine o_mv ?_
 refine o_cl rfl rfl tS rfl (run_fin ho W1 isWor 54 (fun H W c => word1_fin ho W _) (l) _ (hS.ext E1)) rfl rfl ?_; rintro _ H2 ⟨rfl, X2⟩
 have W2 := X2.wf; have E2 := E1.trans X2
 have A1 := X2.keep _ _ A1
 have n2 := X2.n
 refine o_as ?_
 refine o_nil ?_
 refine w_seq ?_
 refine w_sr ?_
 refine o_mv ?_
 refine o_mv ?_
 refine o_rd (r_sliceTo (j := runF isWor l) Try.underlying22 Ty.csz5 tE tE (by omega) (cutOk_ext E2 hcut1)) rfl rfl ?_
 refine o_rd (r_bytesStr (l := l.take (runF isWor l)) Try.underlying22 Try.underlying9 Try.underlying5 Ty.csz5 tE ((hS.to_ (by omega)).ext E2)) rfl rfl ?_
 refine o_cl rfl rfl tS rfl (kind_fin ho W2 ho81 tx ho69 (l.take (runF isWor l))) rfl rfl ?_; rintro _ H3 ⟨rfl, X3⟩
 have W3 := X3.wf; have E3 := E2.trans X3
 have A1 := X3.keep _ _ A1
 have n3 := X3.n
 refine o_as ?_
 refine o_nil ?_
 refine w_sr ?_
 refine o_mv ?_
 refine o_rd (r_ne (a := kindF tx (l.take (runF isWor l))) (b := 0) tE tE) rfl rfl ?_
 refine o_nil ?_
 refine w_cond tE (fun hB4 => ?_) (fun hB4 => ?_)
 ·have hc4 := dec_t hB4
  refine w_sr ?_
  refine o_mv ?_
  refine o_mv ?_
  refine o_rd (r_build (cs := [.int .i64 (kindF tx (l.take (runF isWor l))), .int .i64 (0), .int .i64 (((runF isWor (l) : Nat) : Int)), .int .i64 (0)]) Ty.zero47 Ty.pl47 tP rfl) rfl rfl ?_
  refine o_st W3 tE tE A1 Ty.csz47 rfl (Nat.le_of_ble_eq_true rfl) (by rfl) rfl rfl ?_; intro H5 n5 W5 A5 K5
  have A5 : H5.at H0.n = some (.row [.int .i64 (kindF tx (l.take (runF isWor l))), .int .i64 (0), .int .i64 (((runF isWor (l) : Nat) : Int)), .int .i64 (0)] 47 false none) := A5
  have E5 := Ext.put W0 E3 (by have := E3.n; omega) K5 n5 W5
  refine o_as ?_
  refine o_nil ?_
  have hr6 : H5.read (.mt H0.n) 0 4 = some [.int .i64 (kindF tx (l.take (runF isWor l))), .int .i64 (0), .int .i64 (((runF isWor (l) : Nat) : Int)), .int .i64 (0)] := read_mt A5 (Nat.le_of_ble_eq_true rfl)
  refine w_ret ⟨.inr rfl, rfl, .tup [.agg [.int .i64 (kindF tx (l.take (runF isWor l))), .int .i64 (0), .int .i64 (((runF isWor (l) : Nat) : Int)), .int .i64 (0)], .int .i64 (0)], (show resultA Try.prog [.cell 2 47, .tmp 3] _ = _ by simp only [resultA, resultsA, envOf, val_set, ↓reduceIte, Nat.reduceEqDiff, Option.map_some, hr6, Ty.agg47, Ty.csz47] <;> rfl), ?_⟩
  try dsimp only
  refine ⟨by unfold wordF; first | (rw [if_pos (by assumption)]; rfl) | (rw [if_neg (fun h => absurd (by assumption) h), if_pos (by assumption)]; rfl) | (rw [if_neg (fun h => absurd (by assumption) h), if_neg (by assumption)]; rfl), E5⟩
 ·have hc4 := dec_fn hB4
  refine w_skip ?_
  refine w_seq ?_
  refine w_sr ?_
  refine o_mv ?_
  refine o_rd (r_gt (a := ((runF isWor (l) : Nat) : Int)) (b := 32) tE tE) rfl rfl ?_
  refine o_nil ?_
  refine w_cond tE (fun hB7 => ?_) (fun hB7 => ?_)
  ·have hc7 := dec_t hB7
   refine w_sr ?_
   refine o_rd (r_build (cs := [.int .i64 (0), .int .i64 (0), .int .i64 (0), .int .i64 (0)]) Ty.zero47 Ty.pl47 tP rfl) rfl rfl ?_
   refine o_st W3 tE tE A1 Ty.csz47 rfl (Nat.le_of_ble_eq_true rfl) (by rfl) rfl rfl ?_; intro H8 n8 W8 A8 K8
   have A8 : H8.at H0.n = some (.row [.int .i64 (0), .int .i64 (0), .int .i64 (0), .int .i64 (0)] 47 false none) := A8
   have E8 := Ext.put W0 E3 (by have := E3.n; omega) K8 n8 W8
   refine o_as ?_
   refine o_nil ?_
   have hr9 : H8.read (.mt H0.n) 0 4 = some [.int .i64 (0), .int .i64 (0), .int .i64 (0), .int .i64 (0)] := read_mt A8 (Nat.le_of_ble_eq_true rfl)
   refine w_ret ⟨.inr rfl, rfl, .tup [.agg [.int .i64 (0), .int .i64 (0), .int .i64 (0), .int .i64 (0)], .int .i64 (13)], (show resultA Try.prog [.cell 2 47, .tmp 3] _ = _ by simp only [resultA, resultsA, envOf, val_set, ↓reduceIte, Nat.reduceEqDiff, Option.map_some, hr9, Ty.agg47, Ty.csz47] <;> rfl), ?_⟩
   try dsimp only
   refine ⟨by unfold wordF; first | (rw [if_pos (by assumption)]; rfl) | (rw [if_neg (fun h => absurd (by assumption) h), if_pos (by assumption)]; rfl) | (rw [if_neg (fun h => absurd (by assumption) h), if_neg (by assumption)]; rfl), E8⟩
  ·have hc7 := dec_f hB7
   refine w_skip ?_
   refine w_sr ?_
   refine o_mv ?_
   refine o_rd (r_build (cs := [.int .i64 (1), .int .i64 (0), .int .i64 (((runF isWor (l) : Nat) : Int)), .int .i64 (0)]) Ty.zero47 Ty.pl47 tP rfl) rfl rfl ?_
   refine o_st W3 tE tE A1 Ty.csz47 rfl (Nat.le_of_ble_eq_true rfl) (by rfl) rfl rfl ?_; intro H10 n10 W10 A10 K10
   have A10 : H10.at H0.n = some (.row [.int .i64 (1), .int .i64 (0), .int .i64 (((runF isWor (l) : Nat) : Int)), .int .i64 (0)] 47 false none) := A10
   have E10 := Ext.put W0 E3 (by have := E3.n; omega) K10 n10 W10
   refine o_as ?_
   refine o_nil ?_
   have hr11 : H10.read (.mt H0.n) 0 4 = some [.int .i64 (1), .int .i64 (0), .int .i64 (((runF isWor (l) : Nat) : Int)), .int .i64 (0)] := read_mt A10 (Nat.le_of_ble_eq_true rfl)
   refine w_ret ⟨.inr rfl, rfl, .tup [.agg [.int .i64 (1), .int .i64 (0), .int .i64 (((runF isWor (l) : Nat) : Int)), .int .i64 (0)], .int .i64 (0)], (show resultA Try.prog [.cell 2 47, .tmp 3] _ = _ by simp only [resultA, resultsA, envOf, val_set, ↓reduceIte, Nat.reduceEqDiff, Option.map_some, hr11, Ty.agg47, Ty.csz47] <;> rfl), ?_⟩
   try dsimp only
   refine ⟨by unfold wordF; first | (rw [if_pos (by assumption)]; rfl) | (rw [if_neg (fun h => absurd (by assumption) h), if_pos (by assumption)]; rfl) | (rw [if_neg (fun h => absurd (by assumption) h), if_neg (by assumption)]; rfl), E10⟩
theorem sign_fin (ho : NoOrcBut [7, 21, 69, 81] orc) {H0 : AH} (W0 : Wf H0) (ho81 : ∃ sg, ∀ H, orc 81 [] H = some (.ret sg, H)) (tx : Nat → List UInt8) (ho69 : ∀ k : Nat, k < 67 → ∀ H, orc 69 [.int .i64 (k : Int)] H = some (.ret (.str (tx k)), H)) (l : List UInt8) (loc1 : VI.Loc) (off1 cap1 : Nat) (hS : SB H0 5 l (.sl loc1 off1 l.length cap1)) (hl0 : 0 < l.length) : Fin Try.prog orc 35 [.sl loc1 (off1) (l.length) cap1] H0 (fun r H' => r = tup2 (signF tx l) ∧ Ext H0 H') := by
 have E0 := Ext.refl W0
 have hlb := hS.bound; obtain ⟨hr1, hc1, hcut1⟩ := sb_caps hS
 refine fin_of Try.func35 rfl (by rw [Try.ntmps35]; simp) (ho _ rfl _ _) ?_
 rw [Try.ntmps35]
 refine w_sr ?_
 refine o_nw W0 (a_alloc Ty.zero47) rfl rfl rfl (by simp) ?_; intro H1 n1 W1 X1 A1
 have A1 : H1.at H0.n = some (.row [.int .i64 (0), .int .i64 (0), .int .i64 (0), .int .i64 (0)] 47 false none) := A1
 have E1 := E0.trans X1
 have g1 : H0.n ≤ H0.n := E0.n
 refine o_as ?_
 refine o_nil ?_
 refine w_seq ?_
 refine w_sr ?_
 refine o_mv ?_
 refine o_rd (r_len (n := l.length) Try.underlying22 tE rfl) rfl rfl ?_
 refine o_rd (r_min (a := 3) (b := ((l.length : Nat) : Int)) tE tE) rfl rfl ?_
 refine o_as ?_
 refine o_nil ?_
 refine w_block ?_
 have hmin : min (3 : Int) ((l.length : Nat) : Int) = ((min 3 l.length : Nat) : Int) := by omega
 refine w_loop (fun m s => ∃ (e : Env) (H : AH) (k : Nat), s = ⟨e, H, []⟩ ∧ e.val 0 = .sl loc1 (off1) (l.length) cap1 ∧ e.val 2 = .ptr (.mt (H0.n)) (0) ∧ e.val 3 = .int .i64 (0) ∧ e.val 4 = .int .i64 (((k : Nat) : Int)) ∧ Wf H ∧ Ext H0 H ∧ H.at (H0.n) = some (.row [.int .i64 (0), .int .i64 (0), .int .i64 (0), .int .i64 (0)] 47 false none) ∧ (k = m) ∧ (k ≤ l.length) ∧ (signF tx l = signGo tx l k)) (min 3 l.length) ⟨_, H1, min 3 l.length, rfl, tV, tV, tV, (by rw [← hmin]; simp only [val_set, ↓reduceIte, Nat.reduceEqDiff] <;> rfl), W1, E1, A1, rfl, (by omega), rfl⟩ ?_
 intro m s hi
 obtain ⟨e, H2, k, rfl, vt0, vt2, vt3, vt4, W2, E2, A1, hkm, hkl, hgo⟩ := hi
 have vA := And.intro vt0 (And.intro vt2 (And.intro vt3 vt4))
 have l2_0 := W2.lt A1
 refine w_seq ?_
 refine w_sr ?_
 refine o_mv ?_
 refine o_rd (r_gt (a := ((k : Nat) : Int)) (b := 0) tE tE) rfl rfl ?_
 refine o_nil ?_
 refine w_cond tE (fun hB3 => ?_) (fun hB3 => ?_)
 ·have hc3 := dec_t hB3
  refine w_skip ?_
  refine w_seq ?_
  refine w_block ?_
  refine w_sr ?_
  obtain ⟨k1, rfl⟩ : ∃ k1, k = k1 + 1 := ⟨k - 1, by omega⟩
  refine o_mv ?_
  refine o_mv ?_
  refine o_rd (r_sliceTo (j := k1 + 1) Try.underlying22 Ty.csz5 tE tE (by omega) (cutOk_ext E2 hcut1)) rfl rfl ?_
  refine o_rd (r_bytesStr (l := l.take (k1 + 1)) Try.underlying22 Try.underlying9 Try.underlying5 Ty.csz5 tE ((hS.to_ (by omega)).ext E2)) rfl rfl ?_
  refine o_cl rfl rfl tS rfl (kind_fin ho W2 ho81 tx ho69 (l.take (k1 + 1))) rfl rfl ?_; rintro _ H4 ⟨rfl, X4⟩
  have W4 := X4.wf; have E4 := E2.trans X4
  have A1 := X4.keep _ _ A1
  have n4 := X4.n
  refine o_as ?_
  refine o_nil ?_
  refine w_sr ?_
  refine o_mv ?_
  refine o_rd (r_ne (a := kindF tx (l.take (k1 + 1))) (b := 0) tE tE) rfl rfl ?_
  refine o_nil ?_
  refine w_cond tE (fun hB5 => ?_) (fun hB5 => ?_)
  ·have hc5 := dec_t hB5
   refine w_sr ?_
   refine o_mv ?_
   refine o_mv ?_
   refine o_rd (r_build (cs := [.int .i64 (kindF tx (l.take (k1 + 1))), .int .i64 (0), .int .i64 ((((k1 + 1) : Nat) : Int)), .int .i64 (0)]) Ty.zero47 Ty.pl47 tP rfl) rfl rfl ?_
   refine o_st W4 tE tE A1 Ty.csz47 rfl (Nat.le_of_ble_eq_true rfl) (by rfl) rfl rfl ?_; intro H6 n6 W6 A6 K6
   have A6 : H6.at H0.n = some (.row [.int .i64 (kindF tx (l.take (k1 + 1))), .int .i64 (0), .int .i64 ((((k1 + 1) : Nat) : Int)), .int .i64 (0)] 47 false none) := A6
   have E6 := Ext.put W0 E4 (by have := E4.n; omega) K6 n6 W6
   refine o_as ?_
   refine o_nil ?_
   have hr7 : H6.read (.mt H0.n) 0 4 = some [.int .i64 (kindF tx (l.take (k1 + 1))), .int .i64 (0), .int .i64 ((((k1 + 1) : Nat) : Int)), .int .i64 (0)] := read_mt A6 (Nat.le_of_ble_eq_true rfl)
   refine w_ret ⟨.inr rfl, rfl, .tup [.agg [.int .i64 (kindF tx (l.take (k1 + 1))), .int .i64 (0), .int .i64 ((((k1 + 1) : Nat) : Int)), .int .i64 (0)], .int .i64 (0)], (show resultA Try.prog [.cell 2 47, .tmp 3] _ = _ by simp only [resultA, resultsA, envOf, val_set, ↓reduceIte, Nat.reduceEqDiff, Option.map_some, vt0, vt2, vt3, vt4, hr7, Ty.agg47, Ty.csz47] <;> rfl), ?_⟩
   try dsimp only
   have hp : signF tx l = (⟨(kindF tx (l.take (k1 + 1))), (0), ((((k1 + 1) : Nat) : Int)), (0)⟩, (0)) := by first | (rw [hgo]; simp only [signGo]; rw [if_pos (by assumption)]) | (rw [hgo, show k = 0 by omega]; rfl)
   refine ⟨by rw [hp]; rfl, E6⟩
  ·have hc5 := dec_fn hB5
   refine w_skip ?_
   refine w_region ?_
   refine o_mv ?_
   refine o_rd (r_subE (a := (((k1 + 1) : Nat) : Int)) (b := 1) (c := (((k1 + 1) : Nat) : Int) - 1) tE tE (by omega) (by omega) (by omega)) rfl rfl ?_
   refine o_as ?_
   refine o_nil ?_
   exact ⟨k1, (by omega), _, H4, k1, rfl, tV, tV, tV, (by rw [show ((k1 : Nat) : Int) = (((k1 + 1) : Nat) : Int) - 1 by omega]; simp only [val_set, ↓reduceIte, Nat.reduceEqDiff] <;> rfl), W4, E4, A1, rfl, (by omega), (by rw [hgo]; simp only [signGo]; rw [if_neg (fun h => absurd (by assumption) h)])⟩
 ·have hc3 := dec_f hB3
  first | refine w_exit (blk_exit ?_) | refine w_exit (show (0 = 0 → _) ∧ (0 ≠ 0 → _) from ⟨fun _ => ?_, fun c => absurd rfl c⟩)
  refine w_sr ?_
  refine o_rd (r_build (cs := [.int .i64 (0), .int .i64 (0), .int .i64 (0), .int .i64 (0)]) Ty.zero47 Ty.pl47 tP rfl) rfl rfl ?_
  refine o_st W2 tE tE A1 Ty.csz47 rfl (Nat.le_of_ble_eq_true rfl) (by rfl) rfl rfl ?_; intro H8 n8 W8 A8 K8
  have A8 : H8.at H0.n = some (.row [.int .i64 (0), .int .i64 (0), .int .i64 (0), .int .i64 (0)] 47 false none) := A8
  have E8 := Ext.put W0 E2 (by have := E2.n; omega) K8 n8 W8
  refine o_as ?_
  refine o_nil ?_
  have hr9 : H8.read (.mt H0.n) 0 4 = some [.int .i64 (0), .int .i64 (0), .int .i64 (0), .int .i64 (0)] := read_mt A8 (Nat.le_of_ble_eq_true rfl)
  refine w_ret ⟨.inr rfl, rfl, .tup [.agg [.int .i64 (0), .int .i64 (0), .int .i64 (0), .int .i64 (0)], .int .i64 (11)], (show resultA Try.prog [.cell 2 47, .tmp 3] _ = _ by simp only [resultA, resultsA, envOf, val_set, ↓reduceIte, Nat.reduceEqDiff, Option.map_some, vt0, vt2, vt3, vt4, hr9, Ty.agg47, Ty.csz47] <;> rfl), ?_⟩
  try dsimp only
  have hp : signF tx l = (⟨(0), (0), (0), (0)⟩, (11)) := by first | (rw [hgo]; simp only [signGo]; rw [if_pos (by assumption)]) | (rw [hgo, show k = 0 by omega]; rfl)
  refine ⟨by rw [hp]; rfl, E8⟩
theorem number_fin (ho : NoOrcBut [7, 21, 69, 81] orc) {H0 : AH} (W0 : Wf H0) (l : List UInt8) (loc1 : VI.Loc) (off1 cap1 : Nat) (hS : SB H0 5 l (.sl loc1 off1 l.length cap1)) (hl0 : 0 < l.length) : Fin Try.prog orc 34 [.sl loc1 (off1) (l.length) cap1] H0 (fun r H' => r = tup2 (numF l) ∧ Ext H0 H') := by
 have E0 := Ext.refl W0
 have hlb := hS.bound; obtain ⟨hr1, hc1, hcut1⟩ := sb_caps hS; have hrl := runF_le isDig l; have h10 : (10 : Int) ≠ 0 := by decide
 refine fin_of Try.func34 rfl (by rw [Try.ntmps34]; simp) (ho _ rfl _ _) ?_
 rw [Try.ntmps34]
 refine w_sr ?_
 refine o_nw W0 (a_alloc Ty.zero47) rfl rfl rfl (by simp) ?_; intro H1 n1 W1 X1 A1
 have A1 : H1.at H0.n = some (.row [.int .i64 (0), .int .i64 (0), .int .i64 (0), .int .i64 (0)] 47 false none) := A1
 have E1 := E0.trans X1
 have g1 : H0.n ≤ H0.n := E0.n
 refine o_as ?_
 refine o_nil ?_
 refine w_sr ?_
 refine o_mv ?_
 refine o_cl rfl rfl tS rfl (run_fin ho W1 isDig 33 (fun H W c => digit_fin ho W _) (l) _ (hS.ext E1)) rfl rfl ?_; rintro _ H2 ⟨rfl, X2⟩
 have W2 := X2.wf; have E2 := E1.trans X2
 have A1 := X2.keep _ _ A1
 have n2 := X2.n
 refine o_as ?_
 refine o_nil ?_
 refine w_sr ?_
 refine o_mv ?_
 refine o_rd (r_build (cs := [.int .i64 (2), .int .i64 (0), .int .i64 (((runF isDig (l) : Nat) : Int)), .int .i64 (0)]) Ty.zero47 Ty.pl47 tP rfl) rfl rfl ?_
 refine o_nw W2 (a_alloc Ty.zero47) rfl rfl rfl (by simp) ?_; intro H3 n3 W3 X3 A3
 have A3 : H3.at H2.n = some (.row [.int .i64 (0), .int .i64 (0), .int .i64 (0), .int .i64 (0)] 47 false none) := A3
 have E3 := E2.trans X3
 have g3 : H0.n ≤ H2.n := E2.n
 have A1 := X3.keep _ _ A1
 refine o_st W3 tE tE A3 Ty.csz47 rfl (Nat.le_of_ble_eq_true rfl) (by rfl) rfl rfl ?_; intro H4 n4 W4 A4 K4
 have A4 : H4.at H2.n = some (.row [.int .i64 (2), .int .i64 (0), .int .i64 (((runF isDig (l) : Nat) : Int)), .int .i64 (0)] 47 false none) := A4
 have E4 := Ext.put W0 E3 (by have := E3.n; omega) K4 n4 W4
 have A1 := K4.own A1 (by omega)
 refine o_nil ?_
 refine w_seq ?_
 refine w_sr ?_
 refine o_mv ?_
 refine o_rd (r_gt (a := ((runF isDig (l) : Nat) : Int)) (b := 1) tE tE) rfl rfl ?_
 refine o_mv ?_
 cases hg5 : (decide (1 < ((runF isDig (l) : Nat) : Int)) : Bool)
 ·have hg5 := dec_f hg5
  refine o_sk rfl ((wanted_of (b := false) rfl rfl rfl tV).trans rfl) ?_
  refine o_sk rfl ((wanted_of (b := false) rfl rfl rfl tV).trans rfl) ?_
  refine o_sk rfl ((wanted_of (b := false) rfl rfl rfl tV).trans rfl) ?_
  refine o_sk rfl ((wanted_of (b := false) rfl rfl rfl tV).trans rfl) ?_
  refine o_rd (r_pick (t := false) tE (fun h => by cases h) (fun _ => tE)) rfl rfl ?_
  refine o_mv ?_
  refine o_rd (r_move tE) rfl ((wanted_of (b := false) rfl rfl rfl tV).trans rfl) ?_
  refine o_rd (r_move tE) rfl ((wanted_of (b := false) rfl rfl rfl tV).trans rfl) ?_
  refine o_rd (r_len (n := l.length) Try.underlying22 tE rfl) rfl ((wanted_of (b := false) rfl rfl rfl tV).trans rfl) ?_
  refine o_rd (r_lt (a := ((runF isDig (l) : Nat) : Int)) (b := ((l.length : Nat) : Int)) tE tE) rfl ((wanted_of (b := false) rfl rfl rfl tV).trans rfl) ?_
  refine o_rd (r_move tE) rfl ((wanted_of (b := false) rfl rfl rfl tV).trans rfl) ?_
  cases hg6 : (decide (((runF isDig (l) : Nat) : Int) < ((l.length : Nat) : Int)) : Bool)
  ·have hg6 := dec_f hg6
   refine o_sk rfl ((wanted_of (b := false) rfl rfl rfl tV).trans rfl) ?_
   refine o_sk rfl ((wanted_of (b := false) rfl rfl rfl tV).trans rfl) ?_
   refine o_sk rfl ((wanted_of (b := false) rfl rfl rfl tV).trans rfl) ?_
   refine o_sk rfl ((wanted_of (b := false) rfl rfl rfl tV).trans rfl) ?_
   refine o_sk rfl ((wanted_of (b := false) rfl rfl rfl tV).trans rfl) ?_
   refine o_rd (r_pick (t := false) tE (fun h => by cases h) (fun _ => tE)) rfl ((wanted_of (b := false) rfl rfl rfl tV).trans rfl) ?_
   refine o_rd (r_pick (t := false) tE (fun h => by cases h) (fun _ => tE)) rfl rfl ?_
   refine o_nil ?_
   refine w_cond (t := false) tE (fun h => by cases h) (fun _ => ?_)
   refine w_skip ?_
   refine w_seq ?_
   refine w_sr ?_
   have hq : ¬ ((1 < runF isDig l ∧ ((l.headD 0).toNat : Int) = 48) ∨ (runF isDig l < l.length ∧ isLet (l.getD (runF isDig l) 0) = true)) := by
    rw [head_at hl0]; rintro (⟨q1, q2⟩ | ⟨q1, q2⟩)
    ·omega
    ·first | omega | (rw [hgd] at q2; exact absurd (q2.symm.trans (by assumption : isLet l[runF isDig l] = false)) (by decide))
   refine o_mv ?_
   refine o_mv ?_
   refine o_rd (r_sliceTo (j := runF isDig l) Try.underlying22 Ty.csz5 tE tE (by omega) (cutOk_ext E4 hcut1)) rfl rfl ?_
   refine o_rd (r_len (n := runF isDig l) Try.underlying22 tE rfl) rfl rfl ?_
   refine o_mv ?_
   refine o_nil ?_
   refine w_block ?_
   refine w_loop (fun m s => ∃ (e : Env) (H : AH) (i : Nat) (v : Int), s = ⟨e, H, []⟩ ∧ e.val 0 = .sl loc1 (off1) (l.length) cap1 ∧ e.val 2 = .ptr (.mt (H0.n)) (0) ∧ e.val 3 = .int .i64 (0) ∧ e.val 4 = .int .i64 (((runF isDig (l) : Nat) : Int)) ∧ e.val 5 = .ptr (.mt (H2.n)) (0) ∧ e.val 37 = .sl loc1 (off1) (runF isDig l) cap1 ∧ e.val 38 = .int .i64 (((runF isDig l : Nat) : Int)) ∧ e.val 39 = .int .i64 (((i : Nat) : Int)) ∧ Wf H ∧ Ext H0 H ∧ H.at (H0.n) = some (.row [.int .i64 (0), .int .i64 (0), .int .i64 (0), .int .i64 (0)] 47 false none) ∧ H.at (H2.n) = some (.row [.int .i64 (2), .int .i64 (0), .int .i64 (((runF isDig l : Nat) : Int)), .int .i64 (v)] 47 false none) ∧ (i + m = runF isDig l) ∧ (numGo (l.take (runF isDig l)) 0 = numGo ((l.take (runF isDig l)).drop i) v)) (runF isDig l) ⟨_, H4, 0, 0, rfl, tV, tV, tV, tV, tV, tV, tV, tV, W4, E4, A1, A4, (by omega), (by rw [List.drop_zero])⟩ ?_
   intro m s hi
   obtain ⟨e, H7, i, v, rfl, vt0, vt2, vt3, vt4, vt5, vt37, vt38, vt39, W7, E7, A1, A4, him, hgo⟩ := hi
   have vA := And.intro vt0 (And.intro vt2 (And.intro vt3 (And.intro vt4 (And.intro vt5 (And.intro vt37 (And.intro vt38 vt39))))))
   have l7_0 := W7.lt A1
   have l7_1 := W7.lt A4
   refine w_sr ?_
   refine o_rd (r_lt (a := ((i : Nat) : Int)) (b := ((runF isDig l : Nat) : Int)) tE tE) rfl rfl ?_
   refine o_nil ?_
   refine w_seq ?_
   refine w_cond tE (fun hB8 => ?_) (fun hB8 => ?_)
   ·have hc8 := dec_t hB8
    refine w_skip ?_
    refine w_seq ?_
    refine w_block ?_
    refine w_sr ?_
    have hin : i < runF isDig l := by omega
    have hil : i < l.length := by omega
    have hdr := numGo_drop (l := l.take (runF isDig l)) (i := i) (v := v) (by simp; omega)
    rw [List.getElem_take] at hdr
    refine o_rd (r_indexAddr Try.underlying22 Ty.csz5 tE tE hin) rfl rfl ?_
    refine o_rd (r_load1 Ty.agg5 tE (Ext.read (H := H0) (by assumption) (bytes_at hr1 hil))) rfl rfl ?_
    refine o_as ?_
    refine o_nil ?_
    refine w_sr ?_
    refine o_mv ?_
    refine o_rd (r_bin (a := ((l[i].toNat : Nat) : Int)) (b := 48) (op := .sub) (w := .int .u8 (wrapA .u8 (((l[i].toNat : Nat) : Int) - 48))) tE tE (by simp) rfl) rfl rfl ?_
    refine o_rd (r_convInt (a := wrapA .u8 (((l[i].toNat : Nat) : Int) - 48)) Try.underlying5 Try.underlying3 tE) rfl rfl ?_
    refine o_as ?_
    refine o_nil ?_
    refine w_seq ?_
    refine w_sr ?_
    refine o_rd (r_fieldAddr Ty.fo47_3 tE) rfl rfl ?_
    refine o_rd (r_load1 (v := .int .i64 (v)) Ty.agg3 tE (read_mt A4 (Nat.le_of_ble_eq_true rfl))) rfl rfl ?_
    refine o_mv ?_
    refine o_rd (r_subW (a := 9223372036854775807) (b := wrapA .i64 (wrapA .u8 (((l[i].toNat : Nat) : Int) - 48))) tE tE) rfl rfl ?_
    refine o_rd (r_quoW (a := wrapA .i64 (9223372036854775807 - wrapA .i64 (wrapA .u8 (((l[i].toNat : Nat) : Int) - 48)))) (b := 10) (by assumption) tE tE) rfl rfl ?_
    refine o_rd (r_gt (a := v) (b := wrapA .i64 (Int.tdiv (wrapA .i64 (9223372036854775807 - wrapA .i64 (wrapA .u8 (((l[i].toNat : Nat) : Int) - 48)))) (10))) tE tE) rfl rfl ?_
    refine o_nil ?_
    refine w_cond tE (fun hB9 => ?_) (fun hB9 => ?_)
    ·have hc9 := dec_t hB9
     refine w_sr ?_
     refine o_rd (r_build (cs := [.int .i64 (0), .int .i64 (0), .int .i64 (0), .int .i64 (0)]) Ty.zero47 Ty.pl47 tP rfl) rfl rfl ?_
     refine o_st W7 tE tE A1 Ty.csz47 rfl (Nat.le_of_ble_eq_true rfl) (by rfl) rfl rfl ?_; intro H10 n10 W10 A10 K10
     have A10 : H10.at H0.n = some (.row [.int .i64 (0), .int .i64 (0), .int .i64 (0), .int .i64 (0)] 47 false none) := A10
     have E10 := Ext.put W0 E7 (by have := E7.n; omega) K10 n10 W10
     have A4 := K10.own A4 (by omega)
     refine o_as ?_
     refine o_nil ?_
     have hr11 : H10.read (.mt H0.n) 0 4 = some [.int .i64 (0), .int .i64 (0), .int .i64 (0), .int .i64 (0)] := read_mt A10 (Nat.le_of_ble_eq_true rfl)
     refine w_ret ⟨.inr rfl, rfl, .tup [.agg [.int .i64 (0), .int .i64 (0), .int .i64 (0), .int .i64 (0)], .int .i64 (12)], (show resultA Try.prog [.cell 2 47, .tmp 3] _ = _ by simp only [resultA, resultsA, envOf, val_set, ↓reduceIte, Nat.reduceEqDiff, Option.map_some, vt0, vt2, vt3, vt4, vt5, vt37, vt38, vt39, hr11, Ty.agg47, Ty.csz47] <;> rfl), ?_⟩
     try dsimp only
     have hp : numF l = (⟨(0), (0), (0), (0)⟩, (12)) := by
      unfold numF
      first
       | rw [if_pos (.inl ⟨by omega, by rw [head_at hl0]; omega⟩)]
       | rw [if_pos (.inr ⟨by assumption, by rw [hgd]; assumption⟩)]
       | (rw [if_neg (by first | (rw [head_at hl0, hgd]; simp [*]; omega) | (rw [head_at hl0]; simp [*]; omega) | (rw [head_at hl0]; omega)), hgo, hdr, if_pos (by assumption)])
       | (rw [if_neg (by assumption), hgo, hdr, if_pos (by assumption)])
       | (rw [if_neg (by assumption), hgo, show i = runF isDig l by omega, List.drop_of_length_le (by simp; omega)]; rfl)
     refine ⟨by rw [hp]; rfl, E10⟩
    ·have hc9 := dec_f hB9
     refine w_skip ?_
     refine w_region ?_
     refine o_rd (r_fieldAddr Ty.fo47_3 tE) rfl rfl ?_
     refine o_rd (r_load1 (v := .int .i64 (v)) Ty.agg3 tE (read_mt A4 (Nat.le_of_ble_eq_true rfl))) rfl rfl ?_
     refine o_rd (r_mulW (a := 10) (b := v) tE tE) rfl rfl ?_
     refine o_mv ?_
     refine o_rd (r_addW (a := wrapA .i64 (10 * v)) (b := wrapA .i64 (wrapA .u8 (((l[i].toNat : Nat) : Int) - 48))) tE tE) rfl rfl ?_
     refine o_rd (r_fieldAddr Ty.fo47_3 tE) rfl rfl ?_
     refine o_st W7 tE tE A4 Ty.csz3 rfl (Nat.le_of_ble_eq_true rfl) (by rfl) rfl rfl ?_; intro H12 n12 W12 A12 K12
     have A12 : H12.at H2.n = some (.row [.int .i64 (2), .int .i64 (0), .int .i64 (((runF isDig l : Nat) : Int)), .int .i64 (wrapA .i64 (wrapA .i64 (10 * v) + wrapA .i64 (wrapA .u8 (((l[i].toNat : Nat) : Int) - 48))))] 47 false none) := A12
     have E12 := Ext.put W0 E7 (by have := E7.n; omega) K12 n12 W12
     have A1 := K12.own A1 (by omega)
     refine o_nil ?_
     refine w_region ?_
     refine o_rd (r_addE (a := ((i : Nat) : Int)) (b := 1) (c := ((i + 1 : Nat) : Int)) tE tE (by omega) (by omega) (by omega)) rfl rfl ?_
     refine o_mv ?_
     refine o_nil ?_
     exact ⟨m - 1, (by omega), _, H12, i + 1, wrapA .i64 (wrapA .i64 (10 * v) + wrapA .i64 (wrapA .u8 (((l[i].toNat : Nat) : Int) - 48))), rfl, tV, tV, tV, tV, tV, tV, tV, tV, W12, E12, A1, A12, (by omega), (by rw [hgo, hdr, if_neg (by assumption)]; rfl)⟩
   ·have hc8 := dec_f hB8
    first | refine w_exit (blk_exit ?_) | refine w_exit (show (0 = 0 → _) ∧ (0 ≠ 0 → _) from ⟨fun _ => ?_, fun c => absurd rfl c⟩)
    refine w_sr ?_
    refine o_rd (r_loadN (cs := [.int .i64 (2), .int .i64 (0), .int .i64 (((runF isDig l : Nat) : Int)), .int .i64 (v)]) Ty.agg47 Ty.csz47 tE (read_mt A4 (Nat.le_of_ble_eq_true rfl))) rfl rfl ?_
    refine o_st W7 tE tE A1 Ty.csz47 rfl (Nat.le_of_ble_eq_true rfl) (by rfl) rfl rfl ?_; intro H13 n13 W13 A13 K13
    have A13 : H13.at H0.n = some (.row [.int .i64 (2), .int .i64 (0), .int .i64 (((runF isDig l : Nat) : Int)), .int .i64 (v)] 47 false none) := A13
    have E13 := Ext.put W0 E7 (by have := E7.n; omega) K13 n13 W13
    have A4 := K13.own A4 (by omega)
    refine o_as ?_
    refine o_nil ?_
    have hr14 : H13.read (.mt H0.n) 0 4 = some [.int .i64 (2), .int .i64 (0), .int .i64 (((runF isDig l : Nat) : Int)), .int .i64 (v)] := read_mt A13 (Nat.le_of_ble_eq_true rfl)
    refine w_ret ⟨.inr rfl, rfl, .tup [.agg [.int .i64 (2), .int .i64 (0), .int .i64 (((runF isDig l : Nat) : Int)), .int .i64 (v)], .int .i64 (0)], (show resultA Try.prog [.cell 2 47, .tmp 3] _ = _ by simp only [resultA, resultsA, envOf, val_set, ↓reduceIte, Nat.reduceEqDiff, Option.map_some, vt0, vt2, vt3, vt4, vt5, vt37, vt38, vt39, hr14, Ty.agg47, Ty.csz47] <;> rfl), ?_⟩
    try dsimp only
    have hp : numF l = (⟨(2), (0), (((runF isDig l : Nat) : Int)), (v)⟩, (0)) := by
     unfold numF
     first
      | rw [if_pos (.inl ⟨by omega, by rw [head_at hl0]; omega⟩)]
      | rw [if_pos (.inr ⟨by assumption, by rw [hgd]; assumption⟩)]
      | (rw [if_neg (by first | (rw [head_at hl0, hgd]; simp [*]; omega) | (rw [head_at hl0]; simp [*]; omega) | (rw [head_at hl0]; omega)), hgo, hdr, if_pos (by assumption)])
      | (rw [if_neg (by assumption), hgo, hdr, if_pos (by assumption)])
      | (rw [if_neg (by assumption), hgo, show i = runF isDig l by omega, List.drop_of_length_le (by simp; omega)]; rfl)
    refine ⟨by rw [hp]; rfl, E13⟩
  ·have hg6 := dec_t hg6
   have hnl : runF isDig l < l.length := by omega
   have hgd : l.getD (runF isDig l) 0 = l[runF isDig l] := by simp [List.getD_eq_getElem?_getD, List.getElem?_eq_getElem hnl]
   refine o_rd (r_move tE) rfl ((wanted_of (b := true) rfl rfl rfl tV).trans rfl) ?_
   refine o_rd (r_move tE) rfl ((wanted_of (b := true) rfl rfl rfl tV).trans rfl) ?_
   refine o_rd (r_indexAddr Try.underlying22 Ty.csz5 tE tE hnl) rfl ((wanted_of (b := true) rfl rfl rfl tV).trans rfl) ?_
   refine o_rd (r_load1 Ty.agg5 tE (Ext.read (H := H0) (by assumption) (bytes_at hr1 hnl))) rfl ((wanted_of (b := true) rfl rfl rfl tV).trans rfl) ?_
   refine o_cl rfl rfl tS rfl (letter_fin ho W4 _) rfl ((wanted_of (b := true) rfl rfl rfl tV).trans rfl) ?_; rintro _ H15 ⟨rfl, X15⟩
   have W15 := X15.wf; have E15 := E4.trans X15
   have A1 := X15.keep _ _ A1
   have A4 := X15.keep _ _ A4
   have n15 := X15.n
   refine o_rd (r_pick (t := true) tE (fun _ => tE) (fun h => by cases h)) rfl ((wanted_of (b := false) rfl rfl rfl tV).trans rfl) ?_
   refine o_rd (r_pick (t := false) tE (fun h => by cases h) (fun _ => tE)) rfl rfl ?_
   refine o_nil ?_
   refine w_cond tE (fun hB16 => ?_) (fun hB16 => ?_)
   ·have hc16 := hB16
    refine w_sr ?_
    refine o_rd (r_build (cs := [.int .i64 (0), .int .i64 (0), .int .i64 (0), .int .i64 (0)]) Ty.zero47 Ty.pl47 tP rfl) rfl rfl ?_
    refine o_st W15 tE tE A1 Ty.csz47 rfl (Nat.le_of_ble_eq_true rfl) (by rfl) rfl rfl ?_; intro H17 n17 W17 A17 K17
    have A17 : H17.at H0.n = some (.row [.int .i64 (0), .int .i64 (0), .int .i64 (0), .int .i64 (0)] 47 false none) := A17
    have E17 := Ext.put W0 E15 (by have := E15.n; omega) K17 n17 W17
    have A4 := K17.own A4 (by omega)
    refine o_as ?_
    refine o_nil ?_
    have hr18 : H17.read (.mt H0.n) 0 4 = some [.int .i64 (0), .int .i64 (0), .int .i64 (0), .int .i64 (0)] := read_mt A17 (Nat.le_of_ble_eq_true rfl)
    refine w_ret ⟨.inr rfl, rfl, .tup [.agg [.int .i64 (0), .int .i64 (0), .int .i64 (0), .int .i64 (0)], .int .i64 (12)], (show resultA Try.prog [.cell 2 47, .tmp 3] _ = _ by simp only [resultA, resultsA, envOf, val_set, ↓reduceIte, Nat.reduceEqDiff, Option.map_some, hr18, Ty.agg47, Ty.csz47] <;> rfl), ?_⟩
    try dsimp only
    have hp : numF l = (⟨(0), (0), (0), (0)⟩, (12)) := by
     unfold numF
     first
      | rw [if_pos (.inl ⟨by omega, by rw [head_at hl0]; omega⟩)]
      | rw [if_pos (.inr ⟨by assumption, by rw [hgd]; assumption⟩)]
      | (rw [if_neg (by first | (rw [head_at hl0, hgd]; simp [*]; omega) | (rw [head_at hl0]; simp [*]; omega) | (rw [head_at hl0]; omega)), hgo, hdr, if_pos (by assumption)])
      | (rw [if_neg (by assumption), hgo, hdr, if_pos (by assumption)])
      | (rw [if_neg (by assumption), hgo, show i = runF isDig l by omega, List.drop_of_length_le (by simp; omega)]; rfl)
    refine ⟨by rw [hp]; rfl, E17⟩
   ·have hc16 := hB16
    refine w_skip ?_
    refine w_seq ?_
    refine w_sr ?_
    have hq : ¬ ((1 < runF isDig l ∧ ((l.headD 0).toNat : Int) = 48) ∨ (runF isDig l < l.length ∧ isLet (l.getD (runF isDig l) 0) = true)) := by
     rw [head_at hl0]; rintro (⟨q1, q2⟩ | ⟨q1, q2⟩)
     ·omega
     ·first | omega | (rw [hgd] at q2; exact absurd (q2.symm.trans (by assumption : isLet l[runF isDig l] = false)) (by decide))
    refine o_mv ?_
    refine o_mv ?_
    refine o_rd (r_sliceTo (j := runF isDig l) Try.underlying22 Ty.csz5 tE tE (by omega) (cutOk_ext E15 hcut1)) rfl rfl ?_
    refine o_rd (r_len (n := runF isDig l) Try.underlying22 tE rfl) rfl rfl ?_
    refine o_mv ?_
    refine o_nil ?_
    refine w_block ?_
    refine w_loop (fun m s => ∃ (e : Env) (H : AH) (i : Nat) (v : Int), s = ⟨e, H, []⟩ ∧ e.val 0 = .sl loc1 (off1) (l.length) cap1 ∧ e.val 2 = .ptr (.mt (H0.n)) (0) ∧ e.val 3 = .int .i64 (0) ∧ e.val 4 = .int .i64 (((runF isDig (l) : Nat) : Int)) ∧ e.val 5 = .ptr (.mt (H2.n)) (0) ∧ e.val 37 = .sl loc1 (off1) (runF isDig l) cap1 ∧ e.val 38 = .int .i64 (((runF isDig l : Nat) : Int)) ∧ e.val 39 = .int .i64 (((i : Nat) : Int)) ∧ Wf H ∧ Ext H0 H ∧ H.at (H0.n) = some (.row [.int .i64 (0), .int .i64 (0), .int .i64 (0), .int .i64 (0)] 47 false none) ∧ H.at (H2.n) = some (.row [.int .i64 (2), .int .i64 (0), .int .i64 (((runF isDig l : Nat) : Int)), .int .i64 (v)] 47 false none) ∧ (i + m = runF isDig l) ∧ (numGo (l.take (runF isDig l)) 0 = numGo ((l.take (runF isDig l)).drop i) v)) (runF isDig l) ⟨_, H15, 0, 0, rfl, tV, tV, tV, tV, tV, tV, tV, tV, W15, E15, A1, A4, (by omega), (by rw [List.drop_zero])⟩ ?_
    intro m s hi
    obtain ⟨e, H19, i, v, rfl, vt0, vt2, vt3, vt4, vt5, vt37, vt38, vt39, W19, E19, A1, A4, him, hgo⟩ := hi
    have vA := And.intro vt0 (And.intro vt2 (And.intro vt3 (And.intro vt4 (And.intro vt5 (And.intro vt37 (And.intro vt38 vt39))))))
    have l19_0 := W19.lt A1
    have l19_1 := W19.lt A4
    refine w_sr ?_
    refine o_rd (r_lt (a := ((i : Nat) : Int)) (b := ((runF isDig l : Nat) : Int)) tE tE) rfl rfl ?_
    refine o_nil ?_
    refine w_seq ?_
    refine w_cond tE (fun hB20 => ?_) (fun hB20 => ?_)
    ·have hc20 := dec_t hB20
     refine w_skip ?_
     refine w_seq ?_
     refine w_block ?_
     refine w_sr ?_
     have hin : i < runF isDig l := by omega
     have hil : i < l.length := by omega
     have hdr := numGo_drop (l := l.take (runF isDig l)) (i := i) (v := v) (by simp; omega)
     rw [List.getElem_take] at hdr
     refine o_rd (r_indexAddr Try.underlying22 Ty.csz5 tE tE hin) rfl rfl ?_
     refine o_rd (r_load1 Ty.agg5 tE (Ext.read (H := H0) (by assumption) (bytes_at hr1 hil))) rfl rfl ?_
     refine o_as ?_
     refine o_nil ?_
     refine w_sr ?_
     refine o_mv ?_
     refine o_rd (r_bin (a := ((l[i].toNat : Nat) : Int)) (b := 48) (op := .sub) (w := .int .u8 (wrapA .u8 (((l[i].toNat : Nat) : Int) - 48))) tE tE (by simp) rfl) rfl rfl ?_
     refine o_rd (r_convInt (a := wrapA .u8 (((l[i].toNat : Nat) : Int) - 48)) Try.underlying5 Try.underlying3 tE) rfl rfl ?_
     refine o_as ?_
     refine o_nil ?_
     refine w_seq ?_
     refine w_sr ?_
     refine o_rd (r_fieldAddr Ty.fo47_3 tE) rfl rfl ?_
     refine o_rd (r_load1 (v := .int .i64 (v)) Ty.agg3 tE (read_mt A4 (Nat.le_of_ble_eq_true rfl))) rfl rfl ?_
     refine o_mv ?_
     refine o_rd (r_subW (a := 9223372036854775807) (b := wrapA .i64 (wrapA .u8 (((l[i].toNat : Nat) : Int) - 48))) tE tE) rfl rfl ?_
     refine o_rd (r_quoW (a := wrapA .i64 (9223372036854775807 - wrapA .i64 (wrapA .u8 (((l[i].toNat : Nat) : Int) - 48)))) (b := 10) (by assumption) tE tE) rfl rfl ?_
     refine o_rd (r_gt (a := v) (b := wrapA .i64 (Int.tdiv (wrapA .i64 (9223372036854775807 - wrapA .i64 (wrapA .u8 (((l[i].toNat : Nat) : Int) - 48)))) (10))) tE tE) rfl rfl ?_
     refine o_nil ?_
     refine w_cond tE (fun hB21 => ?_) (fun hB21 => ?_)
     ·have hc21 := dec_t hB21
      refine w_sr ?_
      refine o_rd (r_build (cs := [.int .i64 (0), .int .i64 (0), .int .i64 (0), .int .i64 (0)]) Ty.zero47 Ty.pl47 tP rfl) rfl rfl ?_
      refine o_st W19 tE tE A1 Ty.csz47 rfl (Nat.le_of_ble_eq_true rfl) (by rfl) rfl rfl ?_; intro H22 n22 W22 A22 K22
      have A22 : H22.at H0.n = some (.row [.int .i64 (0), .int .i64 (0), .int .i64 (0), .int .i64 (0)] 47 false none) := A22
      have E22 := Ext.put W0 E19 (by have := E19.n; omega) K22 n22 W22
      have A4 := K22.own A4 (by omega)
      refine o_as ?_
      refine o_nil ?_
      have hr23 : H22.read (.mt H0.n) 0 4 = some [.int .i64 (0), .int .i64 (0), .int .i64 (0), .int .i64 (0)] := read_mt A22 (Nat.le_of_ble_eq_true rfl)
      refine w_ret ⟨.inr rfl, rfl, .tup [.agg [.int .i64 (0), .int .i64 (0), .int .i64 (0), .int .i64 (0)], .int .i64 (12)], (show resultA Try.prog [.cell 2 47, .tmp 3] _ = _ by simp only [resultA, resultsA, envOf, val_set, ↓reduceIte, Nat.reduceEqDiff, Option.map_some, vt0, vt2, vt3, vt4, vt5, vt37, vt38, vt39, hr23, Ty.agg47, Ty.csz47] <;> rfl), ?_⟩
      try dsimp only
      have hp : numF l = (⟨(0), (0), (0), (0)⟩, (12)) := by
       unfold numF
       first
        | rw [if_pos (.inl ⟨by omega, by rw [head_at hl0]; omega⟩)]
        | rw [if_pos (.inr ⟨by assumption, by rw [hgd]; assumption⟩)]
        | (rw [if_neg (by first | (rw [head_at hl0, hgd]; simp [*]; omega) | (rw [head_at hl0]; simp [*]; omega) | (rw [head_at hl0]; omega)), hgo, hdr, if_pos (by assumption)])
        | (rw [if_neg (by assumption), hgo, hdr, if_pos (by assumption)])
        | (rw [if_neg (by assumption), hgo, show i = runF isDig l by omega, List.drop_of_length_le (by simp; omega)]; rfl)
      refine ⟨by rw [hp]; rfl, E22⟩
     ·have hc21 := dec_f hB21
      refine w_skip ?_
      refine w_region ?_
      refine o_rd (r_fieldAddr Ty.fo47_3 tE) rfl rfl ?_
      refine o_rd (r_load1 (v := .int .i64 (v)) Ty.agg3 tE (read_mt A4 (Nat.le_of_ble_eq_true rfl))) rfl rfl ?_
      refine o_rd (r_mulW (a := 10) (b := v) tE tE) rfl rfl ?_
      refine o_mv ?_
      refine o_rd (r_addW (a := wrapA .i64 (10 * v)) (b := wrapA .i64 (wrapA .u8 (((l[i].toNat : Nat) : Int) - 48))) tE tE) rfl rfl ?_
      refine o_rd (r_fieldAddr Ty.fo47_3 tE) rfl rfl ?_
      refine o_st W19 tE tE A4 Ty.csz3 rfl (Nat.le_of_ble_eq_true rfl) (by rfl) rfl rfl ?_; intro H24 n24 W24 A24 K24
      have A24 : H24.at H2.n = some (.row [.int .i64 (2), .int .i64 (0), .int .i64 (((runF isDig l : Nat) : Int)), .int .i64 (wrapA .i64 (wrapA .i64 (10 * v) + wrapA .i64 (wrapA .u8 (((l[i].toNat : Nat) : Int) - 48))))] 47 false none) := A24
      have E24 := Ext.put W0 E19 (by have := E19.n; omega) K24 n24 W24
      have A1 := K24.own A1 (by omega)
      refine o_nil ?_
      refine w_region ?_
      refine o_rd (r_addE (a := ((i : Nat) : Int)) (b := 1) (c := ((i + 1 : Nat) : Int)) tE tE (by omega) (by omega) (by omega)) rfl rfl ?_
      refine o_mv ?_
      refine o_nil ?_
      exact ⟨m - 1, (by omega), _, H24, i + 1, wrapA .i64 (wrapA .i64 (10 * v) + wrapA .i64 (wrapA .u8 (((l[i].toNat : Nat) : Int) - 48))), rfl, tV, tV, tV, tV, tV, tV, tV, tV, W24, E24, A1, A24, (by omega), (by rw [hgo, hdr, if_neg (by assumption)]; rfl)⟩
    ·have hc20 := dec_f hB20
     first | refine w_exit (blk_exit ?_) | refine w_exit (show (0 = 0 → _) ∧ (0 ≠ 0 → _) from ⟨fun _ => ?_, fun c => absurd rfl c⟩)
     refine w_sr ?_
     refine o_rd (r_loadN (cs := [.int .i64 (2), .int .i64 (0), .int .i64 (((runF isDig l : Nat) : Int)), .int .i64 (v)]) Ty.agg47 Ty.csz47 tE (read_mt A4 (Nat.le_of_ble_eq_true rfl))) rfl rfl ?_
     refine o_st W19 tE tE A1 Ty.csz47 rfl (Nat.le_of_ble_eq_true rfl) (by rfl) rfl rfl ?_; intro H25 n25 W25 A25 K25
     have A25 : H25.at H0.n = some (.row [.int .i64 (2), .int .i64 (0), .int .i64 (((runF isDig l : Nat) : Int)), .int .i64 (v)] 47 false none) := A25
     have E25 := Ext.put W0 E19 (by have := E19.n; omega) K25 n25 W25
     have A4 := K25.own A4 (by omega)
     refine o_as ?_
     refine o_nil ?_
     have hr26 : H25.read (.mt H0.n) 0 4 = some [.int .i64 (2), .int .i64 (0), .int .i64 (((runF isDig l : Nat) : Int)), .int .i64 (v)] := read_mt A25 (Nat.le_of_ble_eq_true rfl)
     refine w_ret ⟨.inr rfl, rfl, .tup [.agg [.int .i64 (2), .int .i64 (0), .int .i64 (((runF isDig l : Nat) : Int)), .int .i64 (v)], .int .i64 (0)], (show resultA Try.prog [.cell 2 47, .tmp 3] _ = _ by simp only [resultA, resultsA, envOf, val_set, ↓reduceIte, Nat.reduceEqDiff, Option.map_some, vt0, vt2, vt3, vt4, vt5, vt37, vt38, vt39, hr26, Ty.agg47, Ty.csz47] <;> rfl), ?_⟩
     try dsimp only
     have hp : numF l = (⟨(2), (0), (((runF isDig l : Nat) : Int)), (v)⟩, (0)) := by
      unfold numF
      first
       | rw [if_pos (.inl ⟨by omega, by rw [head_at hl0]; omega⟩)]
       | rw [if_pos (.inr ⟨by assumption, by rw [hgd]; assumption⟩)]
       | (rw [if_neg (by first | (rw [head_at hl0, hgd]; simp [*]; omega) | (rw [head_at hl0]; simp [*]; omega) | (rw [head_at hl0]; omega)), hgo, hdr, if_pos (by assumption)])
       | (rw [if_neg (by assumption), hgo, hdr, if_pos (by assumption)])
       | (rw [if_neg (by assumption), hgo, show i = runF isDig l by omega, List.drop_of_length_le (by simp; omega)]; rfl)
     refine ⟨by rw [hp]; rfl, E25⟩
 ·have hg5 := dec_t hg5
  refine o_rd (r_move tE) rfl ((wanted_of (b := true) rfl rfl rfl tV).trans rfl) ?_
  refine o_rd (r_indexAddr Try.underlying22 Ty.csz5 tE tE hl0) rfl ((wanted_of (b := true) rfl rfl rfl tV).trans rfl) ?_
  refine o_rd (r_load1 Ty.agg5 tE (Ext.read (H := H0) (by assumption) (bytes_at hr1 hl0))) rfl ((wanted_of (b := true) rfl rfl rfl tV).trans rfl) ?_
  refine o_rd (r_eq (a := ((l[0].toNat : Nat) : Int)) (b := 48) tE tE) rfl ((wanted_of (b := true) rfl rfl rfl tV).trans rfl) ?_
  refine o_rd (r_pick (t := true) tE (fun _ => tE) (fun h => by cases h)) rfl rfl ?_
  refine o_mv ?_
  cases hg27 : (decide (((l[0].toNat : Nat) : Int) = 48) : Bool)
  ·have hg27 := dec_f hg27
   refine o_rd (r_move tE) rfl ((wanted_of (b := false) rfl rfl rfl tV).trans rfl) ?_
   refine o_rd (r_move tE) rfl ((wanted_of (b := false) rfl rfl rfl tV).trans rfl) ?_
   refine o_rd (r_len (n := l.length) Try.underlying22 tE rfl) rfl ((wanted_of (b := false) rfl rfl rfl tV).trans rfl) ?_
   refine o_rd (r_lt (a := ((runF isDig (l) : Nat) : Int)) (b := ((l.length : Nat) : Int)) tE tE) rfl ((wanted_of (b := false) rfl rfl rfl tV).trans rfl) ?_
   refine o_rd (r_move tE) rfl ((wanted_of (b := false) rfl rfl rfl tV).trans rfl) ?_
   cases hg28 : (decide (((runF isDig (l) : Nat) : Int) < ((l.length : Nat) : Int)) : Bool)
   ·have hg28 := dec_f hg28
    refine o_sk rfl ((wanted_of (b := false) rfl rfl rfl tV).trans rfl) ?_
    refine o_sk rfl ((wanted_of (b := false) rfl rfl rfl tV).trans rfl) ?_
    refine o_sk rfl ((wanted_of (b := false) rfl rfl rfl tV).trans rfl) ?_
    refine o_sk rfl ((wanted_of (b := false) rfl rfl rfl tV).trans rfl) ?_
    refine o_sk rfl ((wanted_of (b := false) rfl rfl rfl tV).trans rfl) ?_
    refine o_rd (r_pick (t := false) tE (fun h => by cases h) (fun _ => tE)) rfl ((wanted_of (b := false) rfl rfl rfl tV).trans rfl) ?_
    refine o_rd (r_pick (t := false) tE (fun h => by cases h) (fun _ => tE)) rfl rfl ?_
    refine o_nil ?_
    refine w_cond (t := false) tE (fun h => by cases h) (fun _ => ?_)
    refine w_skip ?_
    refine w_seq ?_
    refine w_sr ?_
    have hq : ¬ ((1 < runF isDig l ∧ ((l.headD 0).toNat : Int) = 48) ∨ (runF isDig l < l.length ∧ isLet (l.getD (runF isDig l) 0) = true)) := by
     rw [head_at hl0]; rintro (⟨q1, q2⟩ | ⟨q1, q2⟩)
     ·omega
     ·first | omega | (rw [hgd] at q2; exact absurd (q2.symm.trans (by assumption : isLet l[runF isDig l] = false)) (by decide))
    refine o_mv ?_
    refine o_mv ?_
    refine o_rd (r_sliceTo (j := runF isDig l) Try.underlying22 Ty.csz5 tE tE (by omega) (cutOk_ext E4 hcut1)) rfl rfl ?_
    refine o_rd (r_len (n := runF isDig l) Try.underlying22 tE rfl) rfl rfl ?_
    refine o_mv ?_
    refine o_nil ?_
    refine w_block ?_
    refine w_loop (fun m s => ∃ (e : Env) (H : AH) (i : Nat) (v : Int), s = ⟨e, H, []⟩ ∧ e.val 0 = .sl loc1 (off1) (l.length) cap1 ∧ e.val 2 = .ptr (.mt (H0.n)) (0) ∧ e.val 3 = .int .i64 (0) ∧ e.val 4 = .int .i64 (((runF isDig (l) : Nat) : Int)) ∧ e.val 5 = .ptr (.mt (H2.n)) (0) ∧ e.val 37 = .sl loc1 (off1) (runF isDig l) cap1 ∧ e.val 38 = .int .i64 (((runF isDig l : Nat) : Int)) ∧ e.val 39 = .int .i64 (((i : Nat) : Int)) ∧ Wf H ∧ Ext H0 H ∧ H.at (H0.n) = some (.row [.int .i64 (0), .int .i64 (0), .int .i64 (0), .int .i64 (0)] 47 false none) ∧ H.at (H2.n) = some (.row [.int .i64 (2), .int .i64 (0), .int .i64 (((runF isDig l : Nat) : Int)), .int .i64 (v)] 47 false none) ∧ (i + m = runF isDig l) ∧ (numGo (l.take (runF isDig l)) 0 = numGo ((l.take (runF isDig l)).drop i) v)) (runF isDig l) ⟨_, H4, 0, 0, rfl, tV, tV, tV, tV, tV, tV, tV, tV, W4, E4, A1, A4, (by omega), (by rw [List.drop_zero])⟩ ?_
    intro m s hi
    obtain ⟨e, H29, i, v, rfl, vt0, vt2, vt3, vt4, vt5, vt37, vt38, vt39, W29, E29, A1, A4, him, hgo⟩ := hi
    have vA := And.intro vt0 (And.intro vt2 (And.intro vt3 (And.intro vt4 (And.intro vt5 (And.intro vt37 (And.intro vt38 vt39))))))
    have l29_0 := W29.lt A1
    have l29_1 := W29.lt A4
    refine w_sr ?_
    refine o_rd (r_lt (a := ((i : Nat) : Int)) (b := ((runF isDig l : Nat) : Int)) tE tE) rfl rfl ?_
    refine o_nil ?_
    refine w_seq ?_
    refine w_cond tE (fun hB30 => ?_) (fun hB30 => ?_)
    ·have hc30 := dec_t hB30
     refine w_skip ?_
     refine w_seq ?_
     refine w_block ?_
     refine w_sr ?_
     have hin : i < runF isDig l := by omega
     have hil : i < l.length := by omega
     have hdr := numGo_drop (l := l.take (runF isDig l)) (i := i) (v := v) (by simp; omega)
     rw [List.getElem_take] at hdr
     refine o_rd (r_indexAddr Try.underlying22 Ty.csz5 tE tE hin) rfl rfl ?_
     refine o_rd (r_load1 Ty.agg5 tE (Ext.read (H := H0) (by assumption) (bytes_at hr1 hil))) rfl rfl ?_
     refine o_as ?_
     refine o_nil ?_
     refine w_sr ?_
     refine o_mv ?_
     refine o_rd (r_bin (a := ((l[i].toNat : Nat) : Int)) (b := 48) (op := .sub) (w := .int .u8 (wrapA .u8 (((l[i].toNat : Nat) : Int) - 48))) tE tE (by simp) rfl) rfl rfl ?_
     refine o_rd (r_convInt (a := wrapA .u8 (((l[i].toNat : Nat) : Int) - 48)) Try.underlying5 Try.underlying3 tE) rfl rfl ?_
     refine o_as ?_
     refine o_nil ?_
     refine w_seq ?_
     refine w_sr ?_
     refine o_rd (r_fieldAddr Ty.fo47_3 tE) rfl rfl ?_
     refine o_rd (r_load1 (v := .int .i64 (v)) Ty.agg3 tE (read_mt A4 (Nat.le_of_ble_eq_true rfl))) rfl rfl ?_
     refine o_mv ?_
     refine o_rd (r_subW (a := 9223372036854775807) (b := wrapA .i64 (wrapA .u8 (((l[i].toNat : Nat) : Int) - 48))) tE tE) rfl rfl ?_
     refine o_rd (r_quoW (a := wrapA .i64 (9223372036854775807 - wrapA .i64 (wrapA .u8 (((l[i].toNat : Nat) : Int) - 48)))) (b := 10) (by assumption) tE tE) rfl rfl ?_
     refine o_rd (r_gt (a := v) (b := wrapA .i64 (Int.tdiv (wrapA .i64 (9223372036854775807 - wrapA .i64 (wrapA .u8 (((l[i].toNat : Nat) : Int) - 48)))) (10))) tE tE) rfl rfl ?_
     refine o_nil ?_
     refine w_cond tE (fun hB31 => ?_) (fun hB31 => ?_)
     ·have hc31 := dec_t hB31
      refine w_sr ?_
      refine o_rd (r_build (cs := [.int .i64 (0), .int .i64 (0), .int .i64 (0), .int .i64 (0)]) Ty.zero47 Ty.pl47 tP rfl) rfl rfl ?_
      refine o_st W29 tE tE A1 Ty.csz47 rfl (Nat.le_of_ble_eq_true rfl) (by rfl) rfl rfl ?_; intro H32 n32 W32 A32 K32
      have A32 : H32.at H0.n = some (.row [.int .i64 (0), .int .i64 (0), .int .i64 (0), .int .i64 (0)] 47 false none) := A32
      have E32 := Ext.put W0 E29 (by have := E29.n; omega) K32 n32 W32
      have A4 := K32.own A4 (by omega)
      refine o_as ?_
      refine o_nil ?_
      have hr33 : H32.read (.mt H0.n) 0 4 = some [.int .i64 (0), .int .i64 (0), .int .i64 (0), .int .i64 (0)] := read_mt A32 (Nat.le_of_ble_eq_true rfl)
      refine w_ret ⟨.inr rfl, rfl, .tup [.agg [.int .i64 (0), .int .i64 (0), .int .i64 (0), .int .i64 (0)], .int .i64 (12)], (show resultA Try.prog [.cell 2 47, .tmp 3] _ = _ by simp only [resultA, resultsA, envOf, val_set, ↓reduceIte, Nat.reduceEqDiff, Option.map_some, vt0, vt2, vt3, vt4, vt5, vt37, vt38, vt39, hr33, Ty.agg47, Ty.csz47] <;> rfl), ?_⟩
      try dsimp only
      have hp : numF l = (⟨(0), (0), (0), (0)⟩, (12)) := by
       unfold numF
       first
        | rw [if_pos (.inl ⟨by omega, by rw [head_at hl0]; omega⟩)]
        | rw [if_pos (.inr ⟨by assumption, by rw [hgd]; assumption⟩)]
        | (rw [if_neg (by first | (rw [head_at hl0, hgd]; simp [*]; omega) | (rw [head_at hl0]; simp [*]; omega) | (rw [head_at hl0]; omega)), hgo, hdr, if_pos (by assumption)])
        | (rw [if_neg (by assumption), hgo, hdr, if_pos (by assumption)])
        | (rw [if_neg (by assumption), hgo, show i = runF isDig l by omega, List.drop_of_length_le (by simp; omega)]; rfl)
      refine ⟨by rw [hp]; rfl, E32⟩
     ·have hc31 := dec_f hB31
      refine w_skip ?_
      refine w_region ?_
      refine o_rd (r_fieldAddr Ty.fo47_3 tE) rfl rfl ?_
      refine o_rd (r_load1 (v := .int .i64 (v)) Ty.agg3 tE (read_mt A4 (Nat.le_of_ble_eq_true rfl))) rfl rfl ?_
      refine o_rd (r_mulW (a := 10) (b := v) tE tE) rfl rfl ?_
      refine o_mv ?_
      refine o_rd (r_addW (a := wrapA .i64 (10 * v)) (b := wrapA .i64 (wrapA .u8 (((l[i].toNat : Nat) : Int) - 48))) tE tE) rfl rfl ?_
      refine o_rd (r_fieldAddr Ty.fo47_3 tE) rfl rfl ?_
      refine o_st W29 tE tE A4 Ty.csz3 rfl (Nat.le_of_ble_eq_true rfl) (by rfl) rfl rfl ?_; intro H34 n34 W34 A34 K34
      have A34 : H34.at H2.n = some (.row [.int .i64 (2), .int .i64 (0), .int .i64 (((runF isDig l : Nat) : Int)), .int .i64 (wrapA .i64 (wrapA .i64 (10 * v) + wrapA .i64 (wrapA .u8 (((l[i].toNat : Nat) : Int) - 48))))] 47 false none) := A34
      have E34 := Ext.put W0 E29 (by have := E29.n; omega) K34 n34 W34
      have A1 := K34.own A1 (by omega)
      refine o_nil ?_
      refine w_region ?_
      refine o_rd (r_addE (a := ((i : Nat) : Int)) (b := 1) (c := ((i + 1 : Nat) : Int)) tE tE (by omega) (by omega) (by omega)) rfl rfl ?_
      refine o_mv ?_
      refine o_nil ?_
      exact ⟨m - 1, (by omega), _, H34, i + 1, wrapA .i64 (wrapA .i64 (10 * v) + wrapA .i64 (wrapA .u8 (((l[i].toNat : Nat) : Int) - 48))), rfl, tV, tV, tV, tV, tV, tV, tV, tV, W34, E34, A1, A34, (by omega), (by rw [hgo, hdr, if_neg (by assumption)]; rfl)⟩
    ·have hc30 := dec_f hB30
     first | refine w_exit (blk_exit ?_) | refine w_exit (show (0 = 0 → _) ∧ (0 ≠ 0 → _) from ⟨fun _ => ?_, fun c => absurd rfl c⟩)
     refine w_sr ?_
     refine o_rd (r_loadN (cs := [.int .i64 (2), .int .i64 (0), .int .i64 (((runF isDig l : Nat) : Int)), .int .i64 (v)]) Ty.agg47 Ty.csz47 tE (read_mt A4 (Nat.le_of_ble_eq_true rfl))) rfl rfl ?_
     refine o_st W29 tE tE A1 Ty.csz47 rfl (Nat.le_of_ble_eq_true rfl) (by rfl) rfl rfl ?_; intro H35 n35 W35 A35 K35
     have A35 : H35.at H0.n = some (.row [.int .i64 (2), .int .i64 (0), .int .i64 (((runF isDig l : Nat) : Int)), .int .i64 (v)] 47 false none) := A35
     have E35 := Ext.put W0 E29 (by have := E29.n; omega) K35 n35 W35
     have A4 := K35.own A4 (by omega)
     refine o_as ?_
     refine o_nil ?_
     have hr36 : H35.read (.mt H0.n) 0 4 = some [.int .i64 (2), .int .i64 (0), .int .i64 (((runF isDig l : Nat) : Int)), .int .i64 (v)] := read_mt A35 (Nat.le_of_ble_eq_true rfl)
     refine w_ret ⟨.inr rfl, rfl, .tup [.agg [.int .i64 (2), .int .i64 (0), .int .i64 (((runF isDig l : Nat) : Int)), .int .i64 (v)], .int .i64 (0)], (show resultA Try.prog [.cell 2 47, .tmp 3] _ = _ by simp only [resultA, resultsA, envOf, val_set, ↓reduceIte, Nat.reduceEqDiff, Option.map_some, vt0, vt2, vt3, vt4, vt5, vt37, vt38, vt39, hr36, Ty.agg47, Ty.csz47] <;> rfl), ?_⟩
     try dsimp only
     have hp : numF l = (⟨(2), (0), (((runF isDig l : Nat) : Int)), (v)⟩, (0)) := by
      unfold numF
      first
       | rw [if_pos (.inl ⟨by omega, by rw [head_at hl0]; omega⟩)]
       | rw [if_pos (.inr ⟨by assumption, by rw [hgd]; assumption⟩)]
       | (rw [if_neg (by first | (rw [head_at hl0, hgd]; simp [*]; omega) | (rw [head_at hl0]; simp [*]; omega) | (rw [head_at hl0]; omega)), hgo, hdr, if_pos (by assumption)])
       | (rw [if_neg (by assumption), hgo, hdr, if_pos (by assumption)])
       | (rw [if_neg (by assumption), hgo, show i = runF isDig l by omega, List.drop_of_length_le (by simp; omega)]; rfl)
     refine ⟨by rw [hp]; rfl, E35⟩
   ·have hg28 := dec_t hg28
    have hnl : runF isDig l < l.length := by omega
    have hgd : l.getD (runF isDig l) 0 = l[runF isDig l] := by simp [List.getD_eq_getElem?_getD, List.getElem?_eq_getElem hnl]
    refine o_rd (r_move tE) rfl ((wanted_of (b := true) rfl rfl rfl tV).trans rfl) ?_
    refine o_rd (r_move tE) rfl ((wanted_of (b := true) rfl rfl rfl tV).trans rfl) ?_
    refine o_rd (r_indexAddr Try.underlying22 Ty.csz5 tE tE hnl) rfl ((wanted_of (b := true) rfl rfl rfl tV).trans rfl) ?_
    refine o_rd (r_load1 Ty.agg5 tE (Ext.read (H := H0) (by assumption) (bytes_at hr1 hnl))) rfl ((wanted_of (b := true) rfl rfl rfl tV).trans rfl) ?_
    refine o_cl rfl rfl tS rfl (letter_fin ho W4 _) rfl ((wanted_of (b := true) rfl rfl rfl tV).trans rfl) ?_; rintro _ H37 ⟨rfl, X37⟩
    have W37 := X37.wf; have E37 := E4.trans X37
    have A1 := X37.keep _ _ A1
    have A4 := X37.keep _ _ A4
    have n37 := X37.n
    refine o_rd (r_pick (t := true) tE (fun _ => tE) (fun h => by cases h)) rfl ((wanted_of (b := false) rfl rfl rfl tV).trans rfl) ?_
    refine o_rd (r_pick (t := false) tE (fun h => by cases h) (fun _ => tE)) rfl rfl ?_
    refine o_nil ?_
    refine w_cond tE (fun hB38 => ?_) (fun hB38 => ?_)
    ·have hc38 := hB38
     refine w_sr ?_
     refine o_rd (r_build (cs := [.int .i64 (0), .int .i64 (0), .int .i64 (0), .int .i64 (0)]) Ty.zero47 Ty.pl47 tP rfl) rfl rfl ?_
     refine o_st W37 tE tE A1 Ty.csz47 rfl (Nat.le_of_ble_eq_true rfl) (by rfl) rfl rfl ?_; intro H39 n39 W39 A39 K39
     have A39 : H39.at H0.n = some (.row [.int .i64 (0), .int .i64 (0), .int .i64 (0), .int .i64 (0)] 47 false none) := A39
     have E39 := Ext.put W0 E37 (by have := E37.n; omega) K39 n39 W39
     have A4 := K39.own A4 (by omega)
     refine o_as ?_
     refine o_nil ?_
     have hr40 : H39.read (.mt H0.n) 0 4 = some [.int .i64 (0), .int .i64 (0), .int .i64 (0), .int .i64 (0)] := read_mt A39 (Nat.le_of_ble_eq_true rfl)
     refine w_ret ⟨.inr rfl, rfl, .tup [.agg [.int .i64 (0), .int .i64 (0), .int .i64 (0), .int .i64 (0)], .int .i64 (12)], (show resultA Try.prog [.cell 2 47, .tmp 3] _ = _ by simp only [resultA, resultsA, envOf, val_set, ↓reduceIte, Nat.reduceEqDiff, Option.map_some, hr40, Ty.agg47, Ty.csz47] <;> rfl), ?_⟩
     try dsimp only
     have hp : numF l = (⟨(0), (0), (0), (0)⟩, (12)) := by
      unfold numF
      first
       | rw [if_pos (.inl ⟨by omega, by rw [head_at hl0]; omega⟩)]
       | rw [if_pos (.inr ⟨by assumption, by rw [hgd]; assumption⟩)]
       | (rw [if_neg (by first | (rw [head_at hl0, hgd]; simp [*]; omega) | (rw [head_at hl0]; simp [*]; omega) | (rw [head_at hl0]; omega)), hgo, hdr, if_pos (by assumption)])
       | (rw [if_neg (by assumption), hgo, hdr, if_pos (by assumption)])
       | (rw [if_neg (by assumption), hgo, show i = runF isDig l by omega, List.drop_of_length_le (by simp; omega)]; rfl)
     refine ⟨by rw [hp]; rfl, E39⟩
    ·have hc38 := hB38
     refine w_skip ?_
     refine w_seq ?_
     refine w_sr ?_
     have hq : ¬ ((1 < runF isDig l ∧ ((l.headD 0).toNat : Int) = 48) ∨ (runF isDig l < l.length ∧ isLet (l.getD (runF isDig l) 0) = true)) := by
      rw [head_at hl0]; rintro (⟨q1, q2⟩ | ⟨q1, q2⟩)
      ·omega
      ·first | omega | (rw [hgd] at q2; exact absurd (q2.symm.trans (by assumption : isLet l[runF isDig l] = false)) (by decide))
     refine o_mv ?_
     refine o_mv ?_
     refine o_rd (r_sliceTo (j := runF isDig l) Try.underlying22 Ty.csz5 tE tE (by omega) (cutOk_ext E37 hcut1)) rfl rfl ?_
     refine o_rd (r_len (n := runF isDig l) Try.underlying22 tE rfl) rfl rfl ?_
     refine o_mv ?_
     refine o_nil ?_
     refine w_block ?_
     refine w_loop (fun m s => ∃ (e : Env) (H : AH) (i : Nat) (v : Int), s = ⟨e, H, []⟩ ∧ e.val 0 = .sl loc1 (off1) (l.length) cap1 ∧ e.val 2 = .ptr (.mt (H0.n)) (0) ∧ e.val 3 = .int .i64 (0) ∧ e.val 4 = .int .i64 (((runF isDig (l) : Nat) : Int)) ∧ e.val 5 = .ptr (.mt (H2.n)) (0) ∧ e.val 37 = .sl loc1 (off1) (runF isDig l) cap1 ∧ e.val 38 = .int .i64 (((runF isDig l : Nat) : Int)) ∧ e.val 39 = .int .i64 (((i : Nat) : Int)) ∧ Wf H ∧ Ext H0 H ∧ H.at (H0.n) = some (.row [.int .i64 (0), .int .i64 (0), .int .i64 (0), .int .i64 (0)] 47 false none) ∧ H.at (H2.n) = some (.row [.int .i64 (2), .int .i64 (0), .int .i64 (((runF isDig l : Nat) : Int)), .int .i64 (v)] 47 false none) ∧ (i + m = runF isDig l) ∧ (numGo (l.take (runF isDig l)) 0 = numGo ((l.take (runF isDig l)).drop i) v)) (runF isDig l) ⟨_, H37, 0, 0, rfl, tV, tV, tV, tV, tV, tV, tV, tV, W37, E37, A1, A4, (by omega), (by rw [List.drop_zero])⟩ ?_
     intro m s hi
     obtain ⟨e, H41, i, v, rfl, vt0, vt2, vt3, vt4, vt5, vt37, vt38, vt39, W41, E41, A1, A4, him, hgo⟩ := hi
     have vA := And.intro vt0 (And.intro vt2 (And.intro vt3 (And.intro vt4 (And.intro vt5 (And.intro vt37 (And.intro vt38 vt39))))))
     have l41_0 := W41.lt A1
     have l41_1 := W41.lt A4
     refine w_sr ?_
     refine o_rd (r_lt (a := ((i : Nat) : Int)) (b := ((runF isDig l : Nat) : Int)) tE tE) rfl rfl ?_
     refine o_nil ?_
     refine w_seq ?_
     refine w_cond tE (fun hB42 => ?_) (fun hB42 => ?_)
     ·have hc42 := dec_t hB42
      refine w_skip ?_
      refine w_seq ?_
      refine w_block ?_
      refine w_sr ?_
      have hin : i < runF isDig l := by omega
      have hil : i < l.length := by omega
      have hdr := numGo_drop (l := l.take (runF isDig l)) (i := i) (v := v) (by simp; omega)
      rw [List.getElem_take] at hdr
      refine o_rd (r_indexAddr Try.underlying22 Ty.csz5 tE tE hin) rfl rfl ?_
      refine o_rd (r_load1 Ty.agg5 tE (Ext.read (H := H0) (by assumption) (bytes_at hr1 hil))) rfl rfl ?_
      refine o_as ?_
      refine o_nil ?_
      refine w_sr ?_
      refine o_mv ?_
      refine o_rd (r_bin (a := ((l[i].toNat : Nat) : Int)) (b := 48) (op := .sub) (w := .int .u8 (wrapA .u8 (((l[i].toNat : Nat) : Int) - 48))) tE tE (by simp) rfl) rfl rfl ?_
      refine o_rd (r_convInt (a := wrapA .u8 (((l[i].toNat : Nat) : Int) - 48)) Try.underlying5 Try.underlying3 tE) rfl rfl ?_
      refine o_as ?_
      refine o_nil ?_
      refine w_seq ?_
      refine w_sr ?_
      refine o_rd (r_fieldAddr Ty.fo47_3 tE) rfl rfl ?_
      refine o_rd (r_load1 (v := .int .i64 (v)) Ty.agg3 tE (read_mt A4 (Nat.le_of_ble_eq_true rfl))) rfl rfl ?_
      refine o_mv ?_
      refine o_rd (r_subW (a := 9223372036854775807) (b := wrapA .i64 (wrapA .u8 (((l[i].toNat : Nat) : Int) - 48))) tE tE) rfl rfl ?_
      refine o_rd (r_quoW (a := wrapA .i64 (9223372036854775807 - wrapA .i64 (wrapA .u8 (((l[i].toNat : Nat) : Int) - 48)))) (b := 10) (by assumption) tE tE) rfl rfl ?_
      refine o_rd (r_gt (a := v) (b := wrapA .i64 (Int.tdiv (wrapA .i64 (9223372036854775807 - wrapA .i64 (wrapA .u8 (((l[i].toNat : Nat) : Int) - 48)))) (10))) tE tE) rfl rfl ?_
      refine o_nil ?_
      refine w_cond tE (fun hB43 => ?_) (fun hB43 => ?_)
      ·have hc43 := dec_t hB43
       refine w_sr ?_
       refine o_rd (r_build (cs := [.int .i64 (0), .int .i64 (0), .int .i64 (0), .int .i64 (0)]) Ty.zero47 Ty.pl47 tP rfl) rfl rfl ?_
       refine o_st W41 tE tE A1 Ty.csz47 rfl (Nat.le_of_ble_eq_true rfl) (by rfl) rfl rfl ?_; intro H44 n44 W44 A44 K44
       have A44 : H44.at H0.n = some (.row [.int .i64 (0), .int .i64 (0), .int .i64 (0), .int .i64 (0)] 47 false none) := A44
       have E44 := Ext.put W0 E41 (by have := E41.n; omega) K44 n44 W44
       have A4 := K44.own A4 (by omega)
       refine o_as ?_
       refine o_nil ?_
       have hr45 : H44.read (.mt H0.n) 0 4 = some [.int .i64 (0), .int .i64 (0), .int .i64 (0), .int .i64 (0)] := read_mt A44 (Nat.le_of_ble_eq_true rfl)
       refine w_ret ⟨.inr rfl, rfl, .tup [.agg [.int .i64 (0), .int .i64 (0), .int .i64 (0), .int .i64 (0)], .int .i64 (12)], (show resultA Try.prog [.cell 2 47, .tmp 3] _ = _ by simp only [resultA, resultsA, envOf, val_set, ↓reduceIte, Nat.reduceEqDiff, Option.map_some, vt0, vt2, vt3, vt4, vt5, vt37, vt38, vt39, hr45, Ty.agg47, Ty.csz47] <;> rfl), ?_⟩
       try dsimp only
       have hp : numF l = (⟨(0), (0), (0), (0)⟩, (12)) := by
        unfold numF
        first
         | rw [if_pos (.inl ⟨by omega, by rw [head_at hl0]; omega⟩)]
         | rw [if_pos (.inr ⟨by assumption, by rw [hgd]; assumption⟩)]
         | (rw [if_neg (by first | (rw [head_at hl0, hgd]; simp [*]; omega) | (rw [head_at hl0]; simp [*]; omega) | (rw [head_at hl0]; omega)), hgo, hdr, if_pos (by assumption)])
         | (rw [if_neg (by assumption), hgo, hdr, if_pos (by assumption)])
         | (rw [if_neg (by assumption), hgo, show i = runF isDig l by omega, List.drop_of_length_le (by simp; omega)]; rfl)
       refine ⟨by rw [hp]; rfl, E44⟩
      ·have hc43 := dec_f hB43
       refine w_skip ?_
       refine w_region ?_
       refine o_rd (r_fieldAddr Ty.fo47_3 tE) rfl rfl ?_
       refine o_rd (r_load1 (v := .int .i64 (v)) Ty.agg3 tE (read_mt A4 (Nat.le_of_ble_eq_true rfl))) rfl rfl ?_
       refine o_rd (r_mulW (a := 10) (b := v) tE tE) rfl rfl ?_
       refine o_mv ?_
       refine o_rd (r_addW (a := wrapA .i64 (10 * v)) (b := wrapA .i64 (wrapA .u8 (((l[i].toNat : Nat) : Int) - 48))) tE tE) rfl rfl ?_
       refine o_rd (r_fieldAddr Ty.fo47_3 tE) rfl rfl ?_
       refine o_st W41 tE tE A4 Ty.csz3 rfl (Nat.le_of_ble_eq_true rfl) (by rfl) rfl rfl ?_; intro H46 n46 W46 A46 K46
       have A46 : H46.at H2.n = some (.row [.int .i64 (2), .int .i64 (0), .int .i64 (((runF isDig l : Nat) : Int)), .int .i64 (wrapA .i64 (wrapA .i64 (10 * v) + wrapA .i64 (wrapA .u8 (((l[i].toNat : Nat) : Int) - 48))))] 47 false none) := A46
       have E46 := Ext.put W0 E41 (by have := E41.n; omega) K46 n46 W46
       have A1 := K46.own A1 (by omega)
       refine o_nil ?_
       refine w_region ?_
       refine o_rd (r_addE (a := ((i : Nat) : Int)) (b := 1) (c := ((i + 1 : Nat) : Int)) tE tE (by omega) (by omega) (by omega)) rfl rfl ?_
       refine o_mv ?_
       refine o_nil ?_
       exact ⟨m - 1, (by omega), _, H46, i + 1, wrapA .i64 (wrapA .i64 (10 * v) + wrapA .i64 (wrapA .u8 (((l[i].toNat : Nat) : Int) - 48))), rfl, tV, tV, tV, tV, tV, tV, tV, tV, W46, E46, A1, A46, (by omega), (by rw [hgo, hdr, if_neg (by assumption)]; rfl)⟩
     ·have hc42 := dec_f hB42
      first | refine w_exit (blk_exit ?_) | refine w_exit (show (0 = 0 → _) ∧ (0 ≠ 0 → _) from ⟨fun _ => ?_, fun c => absurd rfl c⟩)
      refine w_sr ?_
      refine o_rd (r_loadN (cs := [.int .i64 (2), .int .i64 (0), .int .i64 (((runF isDig l : Nat) : Int)), .int .i64 (v)]) Ty.agg47 Ty.csz47 tE (read_mt A4 (Nat.le_of_ble_eq_true rfl))) rfl rfl ?_
      refine o_st W41 tE tE A1 Ty.csz47 rfl (Nat.le_of_ble_eq_true rfl) (by rfl) rfl rfl ?_; intro H47 n47 W47 A47 K47
      have A47 : H47.at H0.n = some (.row [.int .i64 (2), .int .i64 (0), .int .i64 (((runF isDig l : Nat) : Int)), .int .i64 (v)] 47 false none) := A47
      have E47 := Ext.put W0 E41 (by have := E41.n; omega) K47 n47 W47
      have A4 := K47.own A4 (by omega)
      refine o_as ?_
      refine o_nil ?_
      have hr48 : H47.read (.mt H0.n) 0 4 = some [.int .i64 (2), .int .i64 (0), .int .i64 (((runF isDig l : Nat) : Int)), .int .i64 (v)] := read_mt A47 (Nat.le_of_ble_eq_true rfl)
      refine w_ret ⟨.inr rfl, rfl, .tup [.agg [.int .i64 (2), .int .i64 (0), .int .i64 (((runF isDig l : Nat) : Int)), .int .i64 (v)], .int .i64 (0)], (show resultA Try.prog [.cell 2 47, .tmp 3] _ = _ by simp only [resultA, resultsA, envOf, val_set, ↓reduceIte, Nat.reduceEqDiff, Option.map_some, vt0, vt2, vt3, vt4, vt5, vt37, vt38, vt39, hr48, Ty.agg47, Ty.csz47] <;> rfl), ?_⟩
      try dsimp only
      have hp : numF l = (⟨(2), (0), (((runF isDig l : Nat) : Int)), (v)⟩, (0)) := by
       unfold numF
       first
        | rw [if_pos (.inl ⟨by omega, by rw [head_at hl0]; omega⟩)]
        | rw [if_pos (.inr ⟨by assumption, by rw [hgd]; assumption⟩)]
        | (rw [if_neg (by first | (rw [head_at hl0, hgd]; simp [*]; omega) | (rw [head_at hl0]; simp [*]; omega) | (rw [head_at hl0]; omega)), hgo, hdr, if_pos (by assumption)])
        | (rw [if_neg (by assumption), hgo, hdr, if_pos (by assumption)])
        | (rw [if_neg (by assumption), hgo, show i = runF isDig l by omega, List.drop_of_length_le (by simp; omega)]; rfl)
      refine ⟨by rw [hp]; rfl, E47⟩
  ·have hg27 := dec_t hg27
   refine o_sk rfl ((wanted_of (b := true) rfl rfl rfl tV).trans rfl) ?_
   refine o_sk rfl ((wanted_of (b := true) rfl rfl rfl tV).trans rfl) ?_
   refine o_sk rfl ((wanted_of (b := true) rfl rfl rfl tV).trans rfl) ?_
   refine o_sk rfl ((wanted_of (b := true) rfl rfl rfl tV).trans rfl) ?_
   refine o_sk rfl ((wanted_of (b := true) rfl rfl rfl tV).trans rfl) ?_
   refine o_sk rfl (wanted_no rfl rfl rfl tV) ?_
   refine o_sk rfl (wanted_no rfl rfl rfl tV) ?_
   refine o_sk rfl (wanted_no rfl rfl rfl tV) ?_
   refine o_sk rfl (wanted_no rfl rfl rfl tV) ?_
   refine o_sk rfl (wanted_no rfl rfl rfl tV) ?_
   refine o_sk rfl ((wanted_of (b := true) rfl rfl rfl tV).trans rfl) ?_
   refine o_rd (r_pick (t := true) tE (fun _ => tE) (fun h => by cases h)) rfl rfl ?_
   refine o_nil ?_
   refine w_cond (t := true) tE (fun _ => ?_) (fun h => by cases h)
   refine w_sr ?_
   refine o_rd (r_build (cs := [.int .i64 (0), .int .i64 (0), .int .i64 (0), .int .i64 (0)]) Ty.zero47 Ty.pl47 tP rfl) rfl rfl ?_
   refine o_st W4 tE tE A1 Ty.csz47 rfl (Nat.le_of_ble_eq_true rfl) (by rfl) rfl rfl ?_; intro H49 n49 W49 A49 K49
   have A49 : H49.at H0.n = some (.row [.int .i64 (0), .int .i64 (0), .int .i64 (0), .int .i64 (0)] 47 false none) := A49
   have E49 := Ext.put W0 E4 (by have := E4.n; omega) K49 n49 W49
   have A4 := K49.own A4 (by omega)
   refine o_as ?_
   refine o_nil ?_
   have hr50 : H49.read (.mt H0.n) 0 4 = some [.int .i64 (0), .int .i64 (0), .int .i64 (0), .int .i64 (0)] := read_mt A49 (Nat.le_of_ble_eq_true rfl)
   refine w_ret ⟨.inr rfl, rfl, .tup [.agg [.int .i64 (0), .int .i64 (0), .int .i64 (0), .int .i64 (0)], .int .i64 (12)], (show resultA Try.prog [.cell 2 47, .tmp 3] _ = _ by simp only [resultA, resultsA, envOf, val_set, ↓reduceIte, Nat.reduceEqDiff, Option.map_some, hr50, Ty.agg47, Ty.csz47] <;> rfl), ?_⟩
   try dsimp only
   have hp : numF l = (⟨(0), (0), (0), (0)⟩, (12)) := by
    unfold numF
    first
     | rw [if_pos (.inl ⟨by omega, by rw [head_at hl0]; omega⟩)]
     | rw [if_pos (.inr ⟨by assumption, by rw [hgd]; assumption⟩)]
     | (rw [if_neg (by first | (rw [head_at hl0, hgd]; simp [*]; omega) | (rw [head_at hl0]; simp [*]; omega) | (rw [head_at hl0]; omega)), hgo, hdr, if_pos (by assumption)])
     | (rw [if_neg (by assumption), hgo, hdr, if_pos (by assumption)])
     | (rw [if_neg (by assumption), hgo, show i = runF isDig l by omega, List.drop_of_length_le (by simp; omega)]; rfl)
   refine ⟨by rw [hp]; rfl, E49⟩
theorem token_fin (ho : NoOrcBut [7, 21, 69, 81] orc) {H0 : AH} (W0 : Wf H0) (ho81 : ∃ sg, ∀ H, orc 81 [] H = some (.ret sg, H)) (tx : Nat → List UInt8) (ho69 : ∀ k : Nat, k < 67 → ∀ H, orc 69 [.int .i64 (k : Int)] H = some (.ret (.str (tx k)), H)) (l : List UInt8) (loc1 : VI.Loc) (off1 cap1 : Nat) (hS : SB H0 5 l (.sl loc1 off1 l.length cap1)) (hl0 : 0 < l.length) : Fin Try.prog orc 25 [.sl loc1 (off1) (l.length) cap1] H0 (fun r H' => r = tup2 (tokF tx l) ∧ Ext H0 H') := by
 have E0 := Ext.refl W0
 have hlb := hS.bound; obtain ⟨hr1, hc1, hcut1⟩ := sb_caps hS
 refine fin_of Try.func25 rfl (by rw [Try.ntmps25]; simp) (ho _ rfl _ _) ?_
 rw [Try.ntmps25]
 refine w_sr ?_
 refine o_nw W0 (a_alloc Ty.zero47) rfl rfl rfl (by simp) ?_; intro H1 n1 W1 X1 A1
 have A1 : H1.at H0.n = some (.row [.int .i64 (0), .int .i64 (0), .int .i64 (0), .int .i64 (0)] 47 false none) := A1
 have E1 := E0.trans X1
 have g1 : H0.n ≤ H0.n := E0.n
 refine o_as ?_
 refine o_nil ?_
 refine w_seq ?_
 refine w_block ?_
 refine w_sr ?_
 refine o_mv ?_
 refine o_rd (r_indexAddr Try.underlying22 Ty.csz5 tE tE hl0) rfl rfl ?_
 refine o_rd (r_load1 Ty.agg5 tE (Ext.read (H := H0) (by assumption) (bytes_at hr1 hl0))) rfl rfl ?_
 refine o_cl rfl rfl tS rfl (letter_fin ho W1 _) rfl rfl ?_; rintro _ H2 ⟨rfl, X2⟩
 have W2 := X2.wf; have E2 := E1.trans X2
 have A1 := X2.keep _ _ A1
 have n2 := X2.n
 refine o_as ?_
 refine o_nil ?_
 refine w_cond tE (fun hB3 => ?_) (fun hB3 => ?_)
 ·have hc3 := hB3
  refine w_sr ?_
  refine o_mv ?_
  refine o_cl rfl rfl tS rfl (word_fin ho W2 ho81 tx ho69 l _ _ _ (hS.ext E2) hl0) rfl rfl ?_; rintro _ H4 ⟨rfl, X4⟩
  have W4 := X4.wf; have E4 := E2.trans X4
  have A1 := X4.keep _ _ A1
  have n4 := X4.n
  refine o_rd (r_extract tE rfl) rfl rfl ?_
  refine o_rd (r_extract tE rfl) rfl rfl ?_
  refine o_st W4 tE tE A1 Ty.csz47 rfl (Nat.le_of_ble_eq_true rfl) (by rfl) rfl rfl ?_; intro H5 n5 W5 A5 K5
  have A5 : H5.at H0.n = some (.row [.int .i64 ((wordF tx l).1.k), .int .i64 ((wordF tx l).1.at_), .int .i64 ((wordF tx l).1.len), .int .i64 ((wordF tx l).1.num)] 47 false none) := A5
  have E5 := Ext.put W0 E4 (by have := E4.n; omega) K5 n5 W5
  refine o_as ?_
  refine o_nil ?_
  have hr6 : H5.read (.mt H0.n) 0 4 = some [.int .i64 ((wordF tx l).1.k), .int .i64 ((wordF tx l).1.at_), .int .i64 ((wordF tx l).1.len), .int .i64 ((wordF tx l).1.num)] := read_mt A5 (Nat.le_of_ble_eq_true rfl)
  refine w_ret ⟨.inr rfl, rfl, .tup [.agg [.int .i64 ((wordF tx l).1.k), .int .i64 ((wordF tx l).1.at_), .int .i64 ((wordF tx l).1.len), .int .i64 ((wordF tx l).1.num)], .int .i64 ((wordF tx l).2)], (show resultA Try.prog [.cell 2 47, .tmp 3] _ = _ by simp only [resultA, resultsA, envOf, val_set, ↓reduceIte, Nat.reduceEqDiff, Option.map_some, hr6, Ty.agg47, Ty.csz47] <;> rfl), ?_⟩
  try dsimp only
  refine ⟨by unfold tokF; rw [head_at hl0]; first | (rw [if_pos (by assumption)]; rfl) | (rw [if_neg (fun h => absurd (h.symm.trans (by assumption : isLet l[0] = false)) (by decide)), if_pos (by assumption)]; rfl) | (rw [if_neg (fun h => absurd (h.symm.trans (by assumption : isLet l[0] = false)) (by decide)), if_neg (fun h => absurd (h.symm.trans (by assumption : isDig l[0] = false)) (by decide))]; rfl), E5⟩
 ·have hc3 := hB3
  refine w_sr ?_
  refine o_mv ?_
  refine o_rd (r_indexAddr Try.underlying22 Ty.csz5 tE tE hl0) rfl rfl ?_
  refine o_rd (r_load1 Ty.agg5 tE (Ext.read (H := H0) (by assumption) (bytes_at hr1 hl0))) rfl rfl ?_
  refine o_cl rfl rfl tS rfl (digit_fin ho W2 _) rfl rfl ?_; rintro _ H7 ⟨rfl, X7⟩
  have W7 := X7.wf; have E7 := E2.trans X7
  have A1 := X7.keep _ _ A1
  have n7 := X7.n
  refine o_as ?_
  refine o_nil ?_
  refine w_cond tE (fun hB8 => ?_) (fun hB8 => ?_)
  ·have hc8 := hB8
   refine w_sr ?_
   refine o_mv ?_
   refine o_cl rfl rfl tS rfl (number_fin ho W7 l _ _ _ (hS.ext E7) hl0) rfl rfl ?_; rintro _ H9 ⟨rfl, X9⟩
   have W9 := X9.wf; have E9 := E7.trans X9
   have A1 := X9.keep _ _ A1
   have n9 := X9.n
   refine o_rd (r_extract tE rfl) rfl rfl ?_
   refine o_rd (r_extract tE rfl) rfl rfl ?_
   refine o_st W9 tE tE A1 Ty.csz47 rfl (Nat.le_of_ble_eq_true rfl) (by rfl) rfl rfl ?_; intro H10 n10 W10 A10 K10
   have A10 : H10.at H0.n = some (.row [.int .i64 ((numF l).1.k), .int .i64 ((numF l).1.at_), .int .i64 ((numF l).1.len), .int .i64 ((numF l).1.num)] 47 false none) := A10
   have E10 := Ext.put W0 E9 (by have := E9.n; omega) K10 n10 W10
   refine o_as ?_
   refine o_nil ?_
   have hr11 : H10.read (.mt H0.n) 0 4 = some [.int .i64 ((numF l).1.k), .int .i64 ((numF l).1.at_), .int .i64 ((numF l).1.len), .int .i64 ((numF l).1.num)] := read_mt A10 (Nat.le_of_ble_eq_true rfl)
   refine w_ret ⟨.inr rfl, rfl, .tup [.agg [.int .i64 ((numF l).1.k), .int .i64 ((numF l).1.at_), .int .i64 ((numF l).1.len), .int .i64 ((numF l).1.num)], .int .i64 ((numF l).2)], (show resultA Try.prog [.cell 2 47, .tmp 3] _ = _ by simp only [resultA, resultsA, envOf, val_set, ↓reduceIte, Nat.reduceEqDiff, Option.map_some, hr11, Ty.agg47, Ty.csz47] <;> rfl), ?_⟩
   try dsimp only
   refine ⟨by unfold tokF; rw [head_at hl0]; first | (rw [if_pos (by assumption)]; rfl) | (rw [if_neg (fun h => absurd (h.symm.trans (by assumption : isLet l[0] = false)) (by decide)), if_pos (by assumption)]; rfl) | (rw [if_neg (fun h => absurd (h.symm.trans (by assumption : isLet l[0] = false)) (by decide)), if_neg (fun h => absurd (h.symm.trans (by assumption : isDig l[0] = false)) (by decide))]; rfl), E10⟩
  ·have hc8 := hB8
   refine w_skip ?_
   refine w_sr ?_
   refine o_mv ?_
   refine o_cl rfl rfl tS rfl (sign_fin ho W7 ho81 tx ho69 l _ _ _ (hS.ext E7) hl0) rfl rfl ?_; rintro _ H12 ⟨rfl, X12⟩
   have W12 := X12.wf; have E12 := E7.trans X12
   have A1 := X12.keep _ _ A1
   have n12 := X12.n
   refine o_rd (r_extract tE rfl) rfl rfl ?_
   refine o_rd (r_extract tE rfl) rfl rfl ?_
   refine o_st W12 tE tE A1 Ty.csz47 rfl (Nat.le_of_ble_eq_true rfl) (by rfl) rfl rfl ?_; intro H13 n13 W13 A13 K13
   have A13 : H13.at H0.n = some (.row [.int .i64 ((signF tx l).1.k), .int .i64 ((signF tx l).1.at_), .int .i64 ((signF tx l).1.len), .int .i64 ((signF tx l).1.num)] 47 false none) := A13
   have E13 := Ext.put W0 E12 (by have := E12.n; omega) K13 n13 W13
   refine o_as ?_
   refine o_nil ?_
   have hr14 : H13.read (.mt H0.n) 0 4 = some [.int .i64 ((signF tx l).1.k), .int .i64 ((signF tx l).1.at_), .int .i64 ((signF tx l).1.len), .int .i64 ((signF tx l).1.num)] := read_mt A13 (Nat.le_of_ble_eq_true rfl)
   refine w_ret ⟨.inr rfl, rfl, .tup [.agg [.int .i64 ((signF tx l).1.k), .int .i64 ((signF tx l).1.at_), .int .i64 ((signF tx l).1.len), .int .i64 ((signF tx l).1.num)], .int .i64 ((signF tx l).2)], (show resultA Try.prog [.cell 2 47, .tmp 3] _ = _ by simp only [resultA, resultsA, envOf, val_set, ↓reduceIte, Nat.reduceEqDiff, Option.map_some, hr14, Ty.agg47, Ty.csz47] <;> rfl), ?_⟩
   try dsimp only
   refine ⟨by unfold tokF; rw [head_at hl0]; first | (rw [if_pos (by assumption)]; rfl) | (rw [if_neg (fun h => absurd (h.symm.trans (by assumption : isLet l[0] = false)) (by decide)), if_pos (by assumption)]; rfl) | (rw [if_neg (fun h => absurd (h.symm.trans (by assumption : isLet l[0] = false)) (by decide)), if_neg (fun h => absurd (h.symm.trans (by assumption : isDig l[0] = false)) (by decide))]; rfl), E13⟩
end Go.Proofs.Ytehmhhlhlipbnaa.Vs
