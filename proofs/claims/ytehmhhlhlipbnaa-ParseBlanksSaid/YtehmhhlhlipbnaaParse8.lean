/-
 Lists of types and expressions, blocks, choices, operators.
-/
import Derived.Test.YtehmhhlhlipbnaaParse7
set_option autoImplicit false
set_option linter.unusedVariables false
set_option linter.unusedSimpArgs false
set_option maxRecDepth 100000
set_option maxHeartbeats 4000000
namespace Go.Proofs.Ytehmhhlhlipbnaa.Vs
open Go.VI Go.Proofs
variable {orc : CallF}
theorem types_fin (ho : NoOrcBut [7, 21, 69, 81] orc) {H0 HS : AH} (W0 : Wf H0) (WS : Wf HS) (ES : Ext H0 HS) (ho81 : ∃ sg, ∀ H, orc 81 [] H = some (.ret sg, H)) (tx : Nat → List UInt8) (ho69 : ∀ k : Nat, k < 67 → ∀ H, orc 69 [.int .i64 (k : Int)] H = some (.ret (.str (tx k)), H)) (src : List UInt8) (sv : AV) (T : List TK) (tv : AV) (rb : Nat) (G : LK → Prop) (st : PS) (x : LK) (hS : SB H0 5 src sv) (hT : TS H0 T tv) (hO : TOk src T) (hR : RS H0 sv tv T.length rb G HS st x) (f : Nat) (ih : ∀ g, g ≤ f → IH orc H0 sv tv rb tx src T g) (hm : pTypes tx src T (f + 1) st ≠ none) : FinP Try.prog orc 74 [.ptr (.mt (rb)) (0)] HS (fun r H' => OkL H0 sv tv T.length rb G HS x (pTypes tx src T (f + 1) st) r H') (fun r H' => BadR H0 rb HS x (pTypes tx src T (f + 1) st) r H') := by
 have E0 := ES
 obtain ⟨nv, hA, hN⟩ := hR.at_; have hr0 := hR.r0; have hTl := hO.len; have hal := hR.al; have hSb := hS.bound; have hrbl := WS.lt hA
 refine fin_ofP Try.func74 rfl (by rw [Try.ntmps74]; simp) (ho _ rfl _ _) ?_
 rw [Try.ntmps74]
 refine w_srP ?_
 refine o_asP ?_
 refine o_nilP ?_
 refine w_srP ?_
 refine o_mvP ?_
 refine o_clP rfl rfl tS rfl ((ih f (by omega)).typ _ WS E0 G st x hR (by intro h; exact hm (by simp [pTypes, pmD, h]))) rfl rfl (by rintro p H' ⟨ae, hbad, rfl, Wb, Eb, xb, Fb⟩; change _ ∧ _; exact ⟨rfl, ae, by simp [pTypes, pmD, hbad], rfl, Wb, Eb, xb, (Fr2.refl WS).trans WS Fb⟩) ?_; rintro _ H1 ⟨v1, st1, x1, hres1, rfl, R1, F1⟩
 obtain ⟨nv1, hA1, hN1⟩ := R1.at_
 have W1 := R1.w; have E1 := R1.e; have FF1 := (Fr2.refl WS).trans WS F1; have hal1 := R1.al
 refine o_stepP ?_
 refine o_nw W1 (a_build1 Try.underlying39 Ty.csz3 Ty.zero3 rfl tE rfl (by decide)) rfl rfl rfl (by simp) ?_; intro H2 n2 W2 X2 A2
 have E2 := E1.trans X2
 have Q2 : KQ H0 HS.n sv tv T.length rb G H2 st1 x1 [v1] (freshSl (H1.n) 1 1) (H1.n, none) := KQ.row (vs := [v1]) R1 X2 n2 FF1.n A2 (by simp)
 have hA1 := X2.keep _ _ hA1
 refine o_nil ?_
 refine o_asP ?_
 refine o_nilP ?_
 refine w_seq ?_
 refine w_block ?_
 refine w_loop (fun m s => ∃ (e : Env) (H : AH) (stL : PS) (xL : LK) (nvL : AV) (ksL : List Int) (kvL : AV) (yL : LK), s = ⟨e, H, []⟩ ∧ e.val 0 = .ptr (.mt (rb)) (0) ∧ e.val 2 = .nils ∧ e.val 3 = kvL ∧ Wf H ∧ Ext H0 H ∧ H.at (rb) = some (.row [sv, tv, .int .i64 (((stL.a : Nat) : Int)), nvL] 58 false none) ∧ (m ≤ f) ∧ (pTypes tx src T (f + 1) st = pTypesGo tx src T m ksL stL) ∧ (1 ≤ ksL.length) ∧ (KQ H0 HS.n sv tv T.length rb G H stL xL ksL kvL yL) ∧ (Fr2 rb HS x H xL)) (f) ⟨_, H2, st1, x1, _, [v1], (freshSl (H1.n) 1 1), (H1.n, none), rfl, tV, tV, tV, W2, E2, hA1, (Nat.le_refl _), (by simp [pTypes, pmD, hres1]), (by simp), Q2, (FF1.trans WS (Fr2.ofExt X2))⟩ ?_
 intro m s hi
 obtain ⟨e, H3, stL, xL, nvL, ksL, kvL, yL, rfl, vt0, vt2, vt3, W3, E3, hA1, hmle, heq, hk1, Q, F⟩ := hi
 have vA := And.intro vt0 (And.intro vt2 vt3)
 have l3_0 := W3.lt hA1
 have hmL := hm; rw [heq] at hmL
 obtain ⟨fu, rfl⟩ : ∃ q, m = q + 1 := by cases m with | zero => exact absurd rfl hmL | succ q => exact ⟨q, rfl⟩
 have hlim : ksL.length < 1000000000 := by have h := hmL; simp only [pTypesGo] at h; exact lim_ok h
 have halL := Q.r.al
 refine w_seq ?_
 refine w_srP ?_
 refine o_mvP ?_
 refine o_stepP ?_
 refine o_cl rfl rfl tS rfl (got_fin ho W0 W3 E3 ho81 tx ho69 src sv T tv rb (GK G ksL yL) stL xL hS hT hO Q.r [44]) rfl rfl ?_; rintro _ H4 ⟨v4, st4, x4, hres4, rfl, R4, F4⟩
 obtain ⟨nv4, hA4, hN4⟩ := R4.at_
 have W4 := R4.w; have E4 := R4.e; have FF4 := F.trans WS F4; have hal4 := R4.al
 have Q4 := KQ.fr Q R4 F4
 refine o_nil ?_
 refine o_nilP ?_
 refine w_cond tE (fun hB5 => ?_) (fun hB5 => ?_)
 ·have hc5 := hB5
  refine w_skip ?_
  refine w_block ?_
  refine w_regionP ?_
  refine o_mvP ?_
  refine o_mvP ?_
  refine o_clP rfl rfl tS rfl ((ih fu (by omega)).typ _ W4 E4 (GK G ksL yL) st4 x4 R4 (by intro h; exact hmL (by simp [pTypesGo, pmD, hres4, hc5, mLim, hlim, h]))) rfl rfl (by rintro p H' ⟨ae, hbad, rfl, Wb, Eb, xb, Fb⟩; change _ ∧ _; exact ⟨rfl, ae, by rw [heq]; simp [pTypesGo, pmD, hres4, hc5, mLim, hlim, hbad], rfl, Wb, Eb, xb, FF4.trans WS Fb⟩) ?_; rintro _ H6 ⟨v6, st6, x6, hres6, rfl, R6, F6⟩
  obtain ⟨nv6, hA6, hN6⟩ := R6.at_
  have W6 := R6.w; have E6 := R6.e; have FF6 := FF4.trans WS F6; have hal6 := R6.al
  have Q6 := KQ.fr Q4 R6 F6
  refine o_stepP ?_
  refine o_nw W6 (a_build1 Try.underlying39 Ty.csz3 Ty.zero3 rfl tE rfl (by decide)) rfl rfl rfl (by simp) ?_; intro H7 n7 W7 X7 A7
  have E7 := E6.trans X7
  have hA6 := X7.keep _ _ hA6
  refine o_nil ?_
  refine o_stepP ?_
  refine o_apK (n0 := HS.n) (vs := [v6]) W0 W7 (Q6.ext X7) (FF6.trans WS (Fr2.ofExt X7)).n ES.n Try.underlying39 Try.underlying39 rfl Ty.csz3 Ty.byt3 Ty.zero3 rfl tE tE (src_fresh (n := 1) A7 rfl) (by simp) (by first | exact Nat.le_of_ble_eq_true rfl | (simp only [List.length_append, List.length_singleton]; omega)) rfl rfl ?_; intro kv8 H8 y8 Q8 A8
  obtain ⟨nv8, hA8, hN8⟩ := Q8.r.at_
  have W8 := Q8.r.w; have E8 := Q8.r.e; have FF8 := (FF6.trans WS (Fr2.ofExt X7)).app WS (Q6.ext X7) A8
  refine o_nil ?_
  refine o_asP ?_
  refine o_nilP ?_
  exact ⟨fu, (by omega), _, H8, st6, x6, nv8, (ksL ++ [v6]), kv8, y8, rfl, tV, tV, tV, W8, E8, hA8, (by omega), (heq.trans (by simp [pTypesGo, pmD, hres4, hres6, hc5, mLim, hlim])), (by simp), Q8, FF8⟩
 ·have hc5 := hB5
  first | refine w_exit (blk_exit ?_) | refine w_exit (show (0 = 0 → _) ∧ (0 ≠ 0 → _) from ⟨fun _ => ?_, fun c => absurd rfl c⟩)
  refine w_srP ?_
  refine o_mvP ?_
  refine o_clP rfl rfl tS rfl (want_ct ho W0 ho81 tx ho69 src sv T tv rb hS hT hO [41] _ W4 E4 (GK G ksL yL) st4 x4 R4 (by intro h; exact hmL (by simp [pTypesGo, pmD, hres4, hc5, mLim, hlim, h]))) rfl rfl (by rintro p H' ⟨ae, hbad, rfl, Wb, Eb, xb, Fb⟩; change _ ∧ _; exact ⟨rfl, ae, by rw [heq]; simp [pTypesGo, pmD, hres4, hc5, mLim, hlim, hbad], rfl, Wb, Eb, xb, FF4.trans WS Fb⟩) ?_; rintro _ H9 ⟨v9, st9, x9, hres9, rfl, R9, F9⟩
  obtain ⟨nv9, hA9, hN9⟩ := R9.at_
  have W9 := R9.w; have E9 := R9.e; have FF9 := FF4.trans WS F9; have hal9 := R9.al
  have Q9 := KQ.fr Q4 R9 F9
  refine o_nilP ?_
  refine w_srP ?_
  refine o_mvP ?_
  refine o_asP ?_
  refine o_nilP ?_
  refine w_ret ?_
  change _ ∧ _
  refine ⟨rfl, kvL, (show resultA Try.prog [.tmp 2] _ = _ from tR), ?_⟩
  try dsimp only
  exact KQ.okl Q9 hk1 hlim FF9 (by rw [heq]; simp [pTypesGo, pmD, hres4, hres9, hc5, mLim, hlim])
theorem list_fin (ho : NoOrcBut [7, 21, 69, 81] orc) {H0 HS : AH} (W0 : Wf H0) (WS : Wf HS) (ES : Ext H0 HS) (ho81 : ∃ sg, ∀ H, orc 81 [] H = some (.ret sg, H)) (tx : Nat → List UInt8) (ho69 : ∀ k : Nat, k < 67 → ∀ H, orc 69 [.int .i64 (k : Int)] H = some (.ret (.str (tx k)), H)) (src : List UInt8) (sv : AV) (T : List TK) (tv : AV) (rb : Nat) (G : LK → Prop) (st : PS) (x : LK) (hS : SB H0 5 src sv) (hT : TS H0 T tv) (hO : TOk src T) (hR : RS H0 sv tv T.length rb G HS st x) (f : Nat) (ih : ∀ g, g ≤ f → IH orc H0 sv tv rb tx src T g) (t : List UInt8)(hm : pList tx src T (f + 1) t st ≠ none) : FinP Try.prog orc 99 [.ptr (.mt (rb)) (0), .str (t)] HS (fun r H' => OkL H0 sv tv T.length rb G HS x (pList tx src T (f + 1) t st) r H') (fun r H' => BadR H0 rb HS x (pList tx src T (f + 1) t st) r H') := by
 have E0 := ES
 obtain ⟨nv, hA, hN⟩ := hR.at_; have hr0 := hR.r0; have hTl := hO.len; have hal := hR.al; have hSb := hS.bound; have hrbl := WS.lt hA
 refine fin_ofP Try.func99 rfl (by rw [Try.ntmps99]; simp) (ho _ rfl _ _) ?_
 rw [Try.ntmps99]
 refine w_srP ?_
 refine o_asP ?_
 refine o_nilP ?_
 refine w_srP ?_
 refine o_mvP ?_
 refine o_clP rfl rfl tS rfl ((ih f (by omega)).expr _ WS E0 G st x hR (by intro h; exact hm (by simp [pList, pmD, h]))) rfl rfl (by rintro p H' ⟨ae, hbad, rfl, Wb, Eb, xb, Fb⟩; change _ ∧ _; exact ⟨rfl, ae, by simp [pList, pmD, hbad], rfl, Wb, Eb, xb, (Fr2.refl WS).trans WS Fb⟩) ?_; rintro _ H1 ⟨v1, st1, x1, hres1, rfl, R1, F1⟩
 obtain ⟨nv1, hA1, hN1⟩ := R1.at_
 have W1 := R1.w; have E1 := R1.e; have FF1 := (Fr2.refl WS).trans WS F1; have hal1 := R1.al
 refine o_stepP ?_
 refine o_nw W1 (a_build1 Try.underlying39 Ty.csz3 Ty.zero3 rfl tE rfl (by decide)) rfl rfl rfl (by simp) ?_; intro H2 n2 W2 X2 A2
 have E2 := E1.trans X2
 have Q2 : KQ H0 HS.n sv tv T.length rb G H2 st1 x1 [v1] (freshSl (H1.n) 1 1) (H1.n, none) := KQ.row (vs := [v1]) R1 X2 n2 FF1.n A2 (by simp)
 have hA1 := X2.keep _ _ hA1
 refine o_nil ?_
 refine o_asP ?_
 refine o_nilP ?_
 refine w_seq ?_
 refine w_block ?_
 refine w_loop (fun m s => ∃ (e : Env) (H : AH) (stL : PS) (xL : LK) (nvL : AV) (ksL : List Int) (kvL : AV) (yL : LK), s = ⟨e, H, []⟩ ∧ e.val 0 = .ptr (.mt (rb)) (0) ∧ e.val 1 = .str (t) ∧ e.val 4 = .nils ∧ e.val 5 = kvL ∧ Wf H ∧ Ext H0 H ∧ H.at (rb) = some (.row [sv, tv, .int .i64 (((stL.a : Nat) : Int)), nvL] 58 false none) ∧ (m ≤ f) ∧ (pList tx src T (f + 1) t st = pListGo tx src T m t ksL stL) ∧ (1 ≤ ksL.length) ∧ (KQ H0 HS.n sv tv T.length rb G H stL xL ksL kvL yL) ∧ (Fr2 rb HS x H xL)) (f) ⟨_, H2, st1, x1, _, [v1], (freshSl (H1.n) 1 1), (H1.n, none), rfl, tV, tV, tV, tV, W2, E2, hA1, (Nat.le_refl _), (by simp [pList, pmD, hres1]), (by simp), Q2, (FF1.trans WS (Fr2.ofExt X2))⟩ ?_
 intro m s hi
 obtain ⟨e, H3, stL, xL, nvL, ksL, kvL, yL, rfl, vt0, vt1, vt4, vt5, W3, E3, hA1, hmle, heq, hk1, Q, F⟩ := hi
 have vA := And.intro vt0 (And.intro vt1 (And.intro vt4 vt5))
 have l3_0 := W3.lt hA1
 have hmL := hm; rw [heq] at hmL
 obtain ⟨fu, rfl⟩ : ∃ q, m = q + 1 := by cases m with | zero => exact absurd rfl hmL | succ q => exact ⟨q, rfl⟩
 have hlim : ksL.length < 1000000000 := by have h := hmL; simp only [pListGo] at h; exact lim_ok h
 have halL := Q.r.al
 refine w_seq ?_
 refine w_srP ?_
 refine o_mvP ?_
 refine o_stepP ?_
 refine o_cl rfl rfl tS rfl (got_fin ho W0 W3 E3 ho81 tx ho69 src sv T tv rb (GK G ksL yL) stL xL hS hT hO Q.r [44]) rfl rfl ?_; rintro _ H4 ⟨v4, st4, x4, hres4, rfl, R4, F4⟩
 obtain ⟨nv4, hA4, hN4⟩ := R4.at_
 have W4 := R4.w; have E4 := R4.e; have FF4 := F.trans WS F4; have hal4 := R4.al
 have Q4 := KQ.fr Q R4 F4
 refine o_nil ?_
 refine o_nilP ?_
 refine w_cond tE (fun hB5 => ?_) (fun hB5 => ?_)
 ·have hc5 := hB5
  refine w_skip ?_
  refine w_block ?_
  refine w_regionP ?_
  refine o_mvP ?_
  refine o_mvP ?_
  refine o_clP rfl rfl tS rfl ((ih fu (by omega)).expr _ W4 E4 (GK G ksL yL) st4 x4 R4 (by intro h; exact hmL (by simp [pListGo, pmD, hres4, hc5, mLim, hlim, h]))) rfl rfl (by rintro p H' ⟨ae, hbad, rfl, Wb, Eb, xb, Fb⟩; change _ ∧ _; exact ⟨rfl, ae, by rw [heq]; simp [pListGo, pmD, hres4, hc5, mLim, hlim, hbad], rfl, Wb, Eb, xb, FF4.trans WS Fb⟩) ?_; rintro _ H6 ⟨v6, st6, x6, hres6, rfl, R6, F6⟩
  obtain ⟨nv6, hA6, hN6⟩ := R6.at_
  have W6 := R6.w; have E6 := R6.e; have FF6 := FF4.trans WS F6; have hal6 := R6.al
  have Q6 := KQ.fr Q4 R6 F6
  refine o_stepP ?_
  refine o_nw W6 (a_build1 Try.underlying39 Ty.csz3 Ty.zero3 rfl tE rfl (by decide)) rfl rfl rfl (by simp) ?_; intro H7 n7 W7 X7 A7
  have E7 := E6.trans X7
  have hA6 := X7.keep _ _ hA6
  refine o_nil ?_
  refine o_stepP ?_
  refine o_apK (n0 := HS.n) (vs := [v6]) W0 W7 (Q6.ext X7) (FF6.trans WS (Fr2.ofExt X7)).n ES.n Try.underlying39 Try.underlying39 rfl Ty.csz3 Ty.byt3 Ty.zero3 rfl tE tE (src_fresh (n := 1) A7 rfl) (by simp) (by first | exact Nat.le_of_ble_eq_true rfl | (simp only [List.length_append, List.length_singleton]; omega)) rfl rfl ?_; intro kv8 H8 y8 Q8 A8
  obtain ⟨nv8, hA8, hN8⟩ := Q8.r.at_
  have W8 := Q8.r.w; have E8 := Q8.r.e; have FF8 := (FF6.trans WS (Fr2.ofExt X7)).app WS (Q6.ext X7) A8
  refine o_nil ?_
  refine o_asP ?_
  refine o_nilP ?_
  exact ⟨fu, (by omega), _, H8, st6, x6, nv8, (ksL ++ [v6]), kv8, y8, rfl, tV, tV, tV, tV, W8, E8, hA8, (by omega), (heq.trans (by simp [pListGo, pmD, hres4, hres6, hc5, mLim, hlim])), (by simp), Q8, FF8⟩
 ·have hc5 := hB5
  first | refine w_exit (blk_exit ?_) | refine w_exit (show (0 = 0 → _) ∧ (0 ≠ 0 → _) from ⟨fun _ => ?_, fun c => absurd rfl c⟩)
  refine w_srP ?_
  refine o_mvP ?_
  refine o_mvP ?_
  refine o_clP rfl rfl tS rfl (want_ct ho W0 ho81 tx ho69 src sv T tv rb hS hT hO t _ W4 E4 (GK G ksL yL) st4 x4 R4 (by intro h; exact hmL (by simp [pListGo, pmD, hres4, hc5, mLim, hlim, h]))) rfl rfl (by rintro p H' ⟨ae, hbad, rfl, Wb, Eb, xb, Fb⟩; change _ ∧ _; exact ⟨rfl, ae, by rw [heq]; simp [pListGo, pmD, hres4, hc5, mLim, hlim, hbad], rfl, Wb, Eb, xb, FF4.trans WS Fb⟩) ?_; rintro _ H9 ⟨v9, st9, x9, hres9, rfl, R9, F9⟩
  obtain ⟨nv9, hA9, hN9⟩ := R9.at_
  have W9 := R9.w; have E9 := R9.e; have FF9 := FF4.trans WS F9; have hal9 := R9.al
  have Q9 := KQ.fr Q4 R9 F9
  refine o_nilP ?_
  refine w_srP ?_
  refine o_mvP ?_
  refine o_asP ?_
  refine o_nilP ?_
  refine w_ret ?_
  change _ ∧ _
  refine ⟨rfl, kvL, (show resultA Try.prog [.tmp 4] _ = _ from tR), ?_⟩
  try dsimp only
  exact KQ.okl Q9 hk1 hlim FF9 (by rw [heq]; simp [pListGo, pmD, hres4, hres9, hc5, mLim, hlim])
theorem block_fin (ho : NoOrcBut [7, 21, 69, 81] orc) {H0 HS : AH} (W0 : Wf H0) (WS : Wf HS) (ES : Ext H0 HS) (ho81 : ∃ sg, ∀ H, orc 81 [] H = some (.ret sg, H)) (tx : Nat → List UInt8) (ho69 : ∀ k : Nat, k < 67 → ∀ H, orc 69 [.int .i64 (k : Int)] H = some (.ret (.str (tx k)), H)) (src : List UInt8) (sv : AV) (T : List TK) (tv : AV) (rb : Nat) (G : LK → Prop) (st : PS) (x : LK) (hS : SB H0 5 src sv) (hT : TS H0 T tv) (hO : TOk src T) (hR : RS H0 sv tv T.length rb G HS st x) (f : Nat) (ih : ∀ g, g ≤ f → IH orc H0 sv tv rb tx src T g) (hm : pBlock tx src T (f + 1) st ≠ none) : FinP Try.prog orc 79 [.ptr (.mt (rb)) (0)] HS (fun r H' => OkR H0 sv tv T.length rb G HS x (pBlock tx src T (f + 1) st) (AV.int .i64) r H') (fun r H' => BadR H0 rb HS x (pBlock tx src T (f + 1) st) r H') := by
 have E0 := ES
 obtain ⟨nv, hA, hN⟩ := hR.at_; have hr0 := hR.r0; have hTl := hO.len; have hal := hR.al; have hSb := hS.bound; have hrbl := WS.lt hA
 refine fin_ofP Try.func79 rfl (by rw [Try.ntmps79]; simp) (ho _ rfl _ _) ?_
 rw [Try.ntmps79]
 refine w_srP ?_
 refine o_asP ?_
 refine o_nilP ?_
 refine w_srP ?_
 refine o_mvP ?_
 refine o_clP rfl rfl tS rfl (want_ct ho W0 ho81 tx ho69 src sv T tv rb hS hT hO [123] _ WS E0 G st x hR (by intro h; exact hm (by simp [pBlock, pmD, h]))) rfl rfl (by rintro p H' ⟨ae, hbad, rfl, Wb, Eb, xb, Fb⟩; change _ ∧ _; exact ⟨rfl, ae, by simp [pBlock, pmD, hbad], rfl, Wb, Eb, xb, (Fr2.refl WS).trans WS Fb⟩) ?_; rintro _ H1 ⟨v1, st1, x1, hres1, rfl, R1, F1⟩
 obtain ⟨nv1, hA1, hN1⟩ := R1.at_
 have W1 := R1.w; have E1 := R1.e; have FF1 := (Fr2.refl WS).trans WS F1; have hal1 := R1.al
 refine o_asP ?_
 refine o_nilP ?_
 refine w_srP ?_
 refine o_asP ?_
 refine o_nilP ?_
 refine w_seq ?_
 refine w_block ?_
 refine w_loop (fun m s => ∃ (e : Env) (H : AH) (stL : PS) (xL : LK) (nvL : AV) (ksL : List Int) (kvL : AV) (yL : LK), s = ⟨e, H, []⟩ ∧ e.val 0 = .ptr (.mt (rb)) (0) ∧ e.val 2 = .int .i64 (0) ∧ e.val 3 = .int .i64 (v1) ∧ e.val 4 = kvL ∧ Wf H ∧ Ext H0 H ∧ H.at (rb) = some (.row [sv, tv, .int .i64 (((stL.a : Nat) : Int)), nvL] 58 false none) ∧ (m ≤ f) ∧ (pBlock tx src T (f + 1) st = pBlockGo tx src T m v1 ksL stL) ∧ (KQ H0 HS.n sv tv T.length rb G H stL xL ksL kvL yL) ∧ (Fr2 rb HS x H xL)) (f) ⟨_, H1, st1, x1, _, [], .nils, (0, none), rfl, tV, tV, tV, tV, W1, E1, hA1, (Nat.le_refl _), (by simp [pBlock, pmD, hres1]), (KQ.start R1), FF1⟩ ?_
 intro m s hi
 obtain ⟨e, H2, stL, xL, nvL, ksL, kvL, yL, rfl, vt0, vt2, vt3, vt4, W2, E2, hA1, hmle, heq, Q, F⟩ := hi
 have vA := And.intro vt0 (And.intro vt2 (And.intro vt3 vt4))
 have l2_0 := W2.lt hA1
 have hmL := hm; rw [heq] at hmL
 obtain ⟨fu, rfl⟩ : ∃ q, m = q + 1 := by cases m with | zero => exact absurd rfl hmL | succ q => exact ⟨q, rfl⟩
 have hlim : ksL.length < 1000000000 := by have h := hmL; simp only [pBlockGo] at h; exact lim_ok h
 have halL := Q.r.al
 refine w_seq ?_
 refine w_srP ?_
 refine o_mvP ?_
 refine o_stepP ?_
 refine o_cl rfl rfl tS rfl (got_fin ho W0 W2 E2 ho81 tx ho69 src sv T tv rb (GK G ksL yL) stL xL hS hT hO Q.r [125]) rfl rfl ?_; rintro _ H3 ⟨v3, st3, x3, hres3, rfl, R3, F3⟩
 obtain ⟨nv3, hA3, hN3⟩ := R3.at_
 have W3 := R3.w; have E3 := R3.e; have FF3 := F.trans WS F3; have hal3 := R3.al
 have Q3 := KQ.fr Q R3 F3
 refine o_nil ?_
 refine o_rdP (r_not tE) rfl rfl ?_
 refine o_nilP ?_
 refine w_cond tE (fun hB4 => ?_) (fun hB4 => ?_)
 ·have hc4 := (not_t hB4)
  refine w_skip ?_
  refine w_block ?_
  refine w_regionP ?_
  refine o_mvP ?_
  refine o_mvP ?_
  refine o_clP rfl rfl tS rfl ((ih fu (by omega)).stm _ W3 E3 (GK G ksL yL) st3 x3 R3 (by intro h; exact hmL (by simp [pBlockGo, pmD, hres3, hc4, mLim, hlim, h]))) rfl rfl (by rintro p H' ⟨ae, hbad, rfl, Wb, Eb, xb, Fb⟩; change _ ∧ _; exact ⟨rfl, ae, by rw [heq]; simp [pBlockGo, pmD, hres3, hc4, mLim, hlim, hbad], rfl, Wb, Eb, xb, FF3.trans WS Fb⟩) ?_; rintro _ H5 ⟨v5, st5, x5, hres5, rfl, R5, F5⟩
  obtain ⟨nv5, hA5, hN5⟩ := R5.at_
  have W5 := R5.w; have E5 := R5.e; have FF5 := FF3.trans WS F5; have hal5 := R5.al
  have Q5 := KQ.fr Q3 R5 F5
  refine o_stepP ?_
  refine o_nw W5 (a_build1 Try.underlying39 Ty.csz3 Ty.zero3 rfl tE rfl (by decide)) rfl rfl rfl (by simp) ?_; intro H6 n6 W6 X6 A6
  have E6 := E5.trans X6
  have hA5 := X6.keep _ _ hA5
  refine o_nil ?_
  refine o_stepP ?_
  refine o_apK (n0 := HS.n) (vs := [v5]) W0 W6 (Q5.ext X6) (FF5.trans WS (Fr2.ofExt X6)).n ES.n Try.underlying39 Try.underlying39 rfl Ty.csz3 Ty.byt3 Ty.zero3 rfl tE tE (src_fresh (n := 1) A6 rfl) (by simp) (by first | exact Nat.le_of_ble_eq_true rfl | (simp only [List.length_append, List.length_singleton]; omega)) rfl rfl ?_; intro kv7 H7 y7 Q7 A7
  obtain ⟨nv7, hA7, hN7⟩ := Q7.r.at_
  have W7 := Q7.r.w; have E7 := Q7.r.e; have FF7 := (FF5.trans WS (Fr2.ofExt X6)).app WS (Q5.ext X6) A7
  refine o_nil ?_
  refine o_asP ?_
  refine o_nilP ?_
  exact ⟨fu, (by omega), _, H7, st5, x5, nv7, (ksL ++ [v5]), kv7, y7, rfl, tV, tV, tV, tV, W7, E7, hA7, (by omega), (heq.trans (by simp [pBlockGo, pmD, hres3, hres5, hc4, mLim, hlim])), Q7, FF7⟩
 ·have hc4 := (not_f hB4)
  first | refine w_exit (blk_exit ?_) | refine w_exit (show (0 = 0 → _) ∧ (0 ≠ 0 → _) from ⟨fun _ => ?_, fun c => absurd rfl c⟩)
  refine w_srP ?_
  refine o_mvP ?_
  refine o_mvP ?_
  refine o_mvP ?_
  refine o_stepP ?_
  refine o_cl rfl rfl tS rfl (node_fin ho W0 W3 E3 src sv T tv rb (GK G ksL yL) st3 x3 hS hT hO R3 (41) (v1) (0) [] ksL _ ((Q3.kl.si (by have := (node_ok (k := 41) (a := v1) (n := 0) (nm := []) (ks := ksL) (st := st3) (by intro h; exact hmL (by simp [pBlockGo, pmD, hres3, hc4, mLim, hlim, h]))).2; omega))) (node_ok (k := 41) (a := v1) (n := 0) (nm := []) (ks := ksL) (st := st3) (by intro h; exact hmL (by simp [pBlockGo, pmD, hres3, hc4, mLim, hlim, h]))).1 (node_ok (k := 41) (a := v1) (n := 0) (nm := []) (ks := ksL) (st := st3) (by intro h; exact hmL (by simp [pBlockGo, pmD, hres3, hc4, mLim, hlim, h]))).2) rfl rfl ?_; rintro _ H8 ⟨v8, st8, x8, hres8, rfl, R8, F8⟩
  obtain ⟨nv8, hA8, hN8⟩ := R8.at_
  have W8 := R8.w; have E8 := R8.e; have FF8 := FF3.trans WS F8; have hal8 := R8.al
  have Q8 := KQ.fr Q3 R8 F8
  refine o_nil ?_
  refine o_asP ?_
  refine o_nilP ?_
  refine w_ret ?_
  change _ ∧ _
  refine ⟨rfl, .int .i64 (v8), (show resultA Try.prog [.tmp 2] _ = _ from tR), ?_⟩
  try dsimp only
  exact ⟨_, st8, x8, by rw [heq]; simp [pBlockGo, pmD, hres3, hres8, hc4, mLim, hlim], rfl, (R8.anti (fun z hz => Or.inl hz)), FF8⟩
theorem choice_fin (ho : NoOrcBut [7, 21, 69, 81] orc) {H0 HS : AH} (W0 : Wf H0) (WS : Wf HS) (ES : Ext H0 HS) (ho81 : ∃ sg, ∀ H, orc 81 [] H = some (.ret sg, H)) (tx : Nat → List UInt8) (ho69 : ∀ k : Nat, k < 67 → ∀ H, orc 69 [.int .i64 (k : Int)] H = some (.ret (.str (tx k)), H)) (src : List UInt8) (sv : AV) (T : List TK) (tv : AV) (rb : Nat) (G : LK → Prop) (st : PS) (x : LK) (hS : SB H0 5 src sv) (hT : TS H0 T tv) (hO : TOk src T) (hR : RS H0 sv tv T.length rb G HS st x) (f : Nat) (ih : ∀ g, g ≤ f → IH orc H0 sv tv rb tx src T g) (hm : pChoice tx src T (f + 1) st ≠ none) : FinP Try.prog orc 80 [.ptr (.mt (rb)) (0)] HS (fun r H' => OkR H0 sv tv T.length rb G HS x (pChoice tx src T (f + 1) st) (AV.int .i64) r H') (fun r H' => BadR H0 rb HS x (pChoice tx src T (f + 1) st) r H') := by
 have E0 := ES
 obtain ⟨nv, hA, hN⟩ := hR.at_; have hr0 := hR.r0; have hTl := hO.len; have hal := hR.al; have hSb := hS.bound; have hrbl := WS.lt hA
 refine fin_ofP Try.func80 rfl (by rw [Try.ntmps80]; simp) (ho _ rfl _ _) ?_
 rw [Try.ntmps80]
 refine w_srP ?_
 refine o_asP ?_
 refine o_nilP ?_
 refine w_srP ?_
 refine o_mvP ?_
 refine o_clP rfl rfl tS rfl (want_ct ho W0 ho81 tx ho69 src sv T tv rb hS hT hO [115, 101, 108, 101, 99, 116] _ WS E0 G st x hR (by intro h; exact hm (by simp [pChoice, pmD, h]))) rfl rfl (by rintro p H' ⟨ae, hbad, rfl, Wb, Eb, xb, Fb⟩; change _ ∧ _; exact ⟨rfl, ae, by simp [pChoice, pmD, hbad], rfl, Wb, Eb, xb, (Fr2.refl WS).trans WS Fb⟩) ?_; rintro _ H1 ⟨v1, st1, x1, hres1, rfl, R1, F1⟩
 obtain ⟨nv1, hA1, hN1⟩ := R1.at_
 have W1 := R1.w; have E1 := R1.e; have FF1 := (Fr2.refl WS).trans WS F1; have hal1 := R1.al
 refine o_asP ?_
 refine o_nilP ?_
 refine w_srP ?_
 refine o_mvP ?_
 refine o_clP rfl rfl tS rfl (want_ct ho W0 ho81 tx ho69 src sv T tv rb hS hT hO [123] _ W1 E1 G st1 x1 R1 (by intro h; exact hm (by simp [pChoice, pmD, hres1, h]))) rfl rfl (by rintro p H' ⟨ae, hbad, rfl, Wb, Eb, xb, Fb⟩; change _ ∧ _; exact ⟨rfl, ae, by simp [pChoice, pmD, hres1, hbad], rfl, Wb, Eb, xb, FF1.trans WS Fb⟩) ?_; rintro _ H2 ⟨v2, st2, x2, hres2, rfl, R2, F2⟩
 obtain ⟨nv2, hA2, hN2⟩ := R2.at_
 have W2 := R2.w; have E2 := R2.e; have FF2 := FF1.trans WS F2; have hal2 := R2.al
 refine o_nilP ?_
 refine w_srP ?_
 refine o_asP ?_
 refine o_nilP ?_
 refine w_seq ?_
 refine w_block ?_
 refine w_loop (fun m s => ∃ (e : Env) (H : AH) (stL : PS) (xL : LK) (nvL : AV) (ksL : List Int) (kvL : AV) (yL : LK), s = ⟨e, H, []⟩ ∧ e.val 0 = .ptr (.mt (rb)) (0) ∧ e.val 2 = .int .i64 (0) ∧ e.val 3 = .int .i64 (v1) ∧ e.val 4 = kvL ∧ Wf H ∧ Ext H0 H ∧ H.at (rb) = some (.row [sv, tv, .int .i64 (((stL.a : Nat) : Int)), nvL] 58 false none) ∧ (m ≤ f) ∧ (pChoice tx src T (f + 1) st = pChoiceGo tx src T m v1 ksL stL) ∧ (KQ H0 HS.n sv tv T.length rb G H stL xL ksL kvL yL) ∧ (Fr2 rb HS x H xL)) (f) ⟨_, H2, st2, x2, _, [], .nils, (0, none), rfl, tV, tV, tV, tV, W2, E2, hA2, (Nat.le_refl _), (by simp [pChoice, pmD, hres1, hres2]), (KQ.start R2), FF2⟩ ?_
 intro m s hi
 obtain ⟨e, H3, stL, xL, nvL, ksL, kvL, yL, rfl, vt0, vt2, vt3, vt4, W3, E3, hA2, hmle, heq, Q, F⟩ := hi
 have vA := And.intro vt0 (And.intro vt2 (And.intro vt3 vt4))
 have l3_0 := W3.lt hA2
 have hmL := hm; rw [heq] at hmL
 obtain ⟨fu, rfl⟩ : ∃ q, m = q + 1 := by cases m with | zero => exact absurd rfl hmL | succ q => exact ⟨q, rfl⟩
 have hlim : ksL.length < 1000000000 := by have h := hmL; simp only [pChoiceGo] at h; exact lim_ok h
 have halL := Q.r.al
 refine w_seq ?_
 refine w_srP ?_
 refine o_mvP ?_
 refine o_stepP ?_
 refine o_cl rfl rfl tS rfl (got_fin ho W0 W3 E3 ho81 tx ho69 src sv T tv rb (GK G ksL yL) stL xL hS hT hO Q.r [125]) rfl rfl ?_; rintro _ H4 ⟨v4, st4, x4, hres4, rfl, R4, F4⟩
 obtain ⟨nv4, hA4, hN4⟩ := R4.at_
 have W4 := R4.w; have E4 := R4.e; have FF4 := F.trans WS F4; have hal4 := R4.al
 have Q4 := KQ.fr Q R4 F4
 refine o_nil ?_
 refine o_rdP (r_not tE) rfl rfl ?_
 refine o_nilP ?_
 refine w_cond tE (fun hB5 => ?_) (fun hB5 => ?_)
 ·have hc5 := (not_t hB5)
  refine w_skip ?_
  refine w_block ?_
  refine w_regionP ?_
  refine o_mvP ?_
  refine o_mvP ?_
  refine o_clP rfl rfl tS rfl ((ih fu (by omega)).arm _ W4 E4 (GK G ksL yL) st4 x4 R4 (by intro h; exact hmL (by simp [pChoiceGo, pmD, hres4, hc5, mLim, hlim, h]))) rfl rfl (by rintro p H' ⟨ae, hbad, rfl, Wb, Eb, xb, Fb⟩; change _ ∧ _; exact ⟨rfl, ae, by rw [heq]; simp [pChoiceGo, pmD, hres4, hc5, mLim, hlim, hbad], rfl, Wb, Eb, xb, FF4.trans WS Fb⟩) ?_; rintro _ H6 ⟨v6, st6, x6, hres6, rfl, R6, F6⟩
  obtain ⟨nv6, hA6, hN6⟩ := R6.at_
  have W6 := R6.w; have E6 := R6.e; have FF6 := FF4.trans WS F6; have hal6 := R6.al
  have Q6 := KQ.fr Q4 R6 F6
  refine o_stepP ?_
  refine o_nw W6 (a_build1 Try.underlying39 Ty.csz3 Ty.zero3 rfl tE rfl (by decide)) rfl rfl rfl (by simp) ?_; intro H7 n7 W7 X7 A7
  have E7 := E6.trans X7
  have hA6 := X7.keep _ _ hA6
  refine o_nil ?_
  refine o_stepP ?_
  refine o_apK (n0 := HS.n) (vs := [v6]) W0 W7 (Q6.ext X7) (FF6.trans WS (Fr2.ofExt X7)).n ES.n Try.underlying39 Try.underlying39 rfl Ty.csz3 Ty.byt3 Ty.zero3 rfl tE tE (src_fresh (n := 1) A7 rfl) (by simp) (by first | exact Nat.le_of_ble_eq_true rfl | (simp only [List.length_append, List.length_singleton]; omega)) rfl rfl ?_; intro kv8 H8 y8 Q8 A8
  obtain ⟨nv8, hA8, hN8⟩ := Q8.r.at_
  have W8 := Q8.r.w; have E8 := Q8.r.e; have FF8 := (FF6.trans WS (Fr2.ofExt X7)).app WS (Q6.ext X7) A8
  refine o_nil ?_
  refine o_asP ?_
  refine o_nilP ?_
  exact ⟨fu, (by omega), _, H8, st6, x6, nv8, (ksL ++ [v6]), kv8, y8, rfl, tV, tV, tV, tV, W8, E8, hA8, (by omega), (heq.trans (by simp [pChoiceGo, pmD, hres4, hres6, hc5, mLim, hlim])), Q8, FF8⟩
 ·have hc5 := (not_f hB5)
  first | refine w_exit (blk_exit ?_) | refine w_exit (show (0 = 0 → _) ∧ (0 ≠ 0 → _) from ⟨fun _ => ?_, fun c => absurd rfl c⟩)
  refine w_srP ?_
  refine o_mvP ?_
  refine o_mvP ?_
  refine o_mvP ?_
  refine o_stepP ?_
  refine o_cl rfl rfl tS rfl (node_fin ho W0 W4 E4 src sv T tv rb (GK G ksL yL) st4 x4 hS hT hO R4 (40) (v1) (0) [] ksL _ ((Q4.kl.si (by have := (node_ok (k := 40) (a := v1) (n := 0) (nm := []) (ks := ksL) (st := st4) (by intro h; exact hmL (by simp [pChoiceGo, pmD, hres4, hc5, mLim, hlim, h]))).2; omega))) (node_ok (k := 40) (a := v1) (n := 0) (nm := []) (ks := ksL) (st := st4) (by intro h; exact hmL (by simp [pChoiceGo, pmD, hres4, hc5, mLim, hlim, h]))).1 (node_ok (k := 40) (a := v1) (n := 0) (nm := []) (ks := ksL) (st := st4) (by intro h; exact hmL (by simp [pChoiceGo, pmD, hres4, hc5, mLim, hlim, h]))).2) rfl rfl ?_; rintro _ H9 ⟨v9, st9, x9, hres9, rfl, R9, F9⟩
  obtain ⟨nv9, hA9, hN9⟩ := R9.at_
  have W9 := R9.w; have E9 := R9.e; have FF9 := FF4.trans WS F9; have hal9 := R9.al
  have Q9 := KQ.fr Q4 R9 F9
  refine o_nil ?_
  refine o_asP ?_
  refine o_nilP ?_
  refine w_ret ?_
  change _ ∧ _
  refine ⟨rfl, .int .i64 (v9), (show resultA Try.prog [.tmp 2] _ = _ from tR), ?_⟩
  try dsimp only
  exact ⟨_, st9, x9, by rw [heq]; simp [pChoiceGo, pmD, hres4, hres9, hc5, mLim, hlim], rfl, (R9.anti (fun z hz => Or.inl hz)), FF9⟩
theorem un_fin (ho : NoOrcBut [7, 21, 69, 81] orc) {H0 HS : AH} (W0 : Wf H0) (WS : Wf HS) (ES : Ext H0 HS) (ho81 : ∃ sg, ∀ H, orc 81 [] H = some (.ret sg, H)) (tx : Nat → List UInt8) (ho69 : ∀ k : Nat, k < 67 → ∀ H, orc 69 [.int .i64 (k : Int)] H = some (.ret (.str (tx k)), H)) (src : List UInt8) (sv : AV) (T : List TK) (tv : AV) (rb : Nat) (G : LK → Prop) (st : PS) (x : LK) (hS : SB H0 5 src sv) (hT : TS H0 T tv) (hO : TOk src T) (hR : RS H0 sv tv T.length rb G HS st x) (f : Nat) (ih : ∀ g, g ≤ f → IH orc H0 sv tv rb tx src T g) (hm : pUn tx src T (f + 1) st ≠ none) : FinP Try.prog orc 91 [.ptr (.mt (rb)) (0)] HS (fun r H' => OkR H0 sv tv T.length rb G HS x (pUn tx src T (f + 1) st) (AV.int .i64) r H') (fun r H' => BadR H0 rb HS x (pUn tx src T (f + 1) st) r H') := by
 have E0 := ES
 obtain ⟨nv, hA, hN⟩ := hR.at_; have hr0 := hR.r0; have hTl := hO.len; have hal := hR.al; have hSb := hS.bound; have hrbl := WS.lt hA
 refine fin_ofP Try.func91 rfl (by rw [Try.ntmps91]; simp) (ho _ rfl _ _) ?_
 rw [Try.ntmps91]
 refine w_srP ?_
 refine o_asP ?_
 refine o_nilP ?_
 refine w_srP ?_
 refine o_mvP ?_
 refine o_stepP ?_
 refine o_cl rfl rfl tS rfl (place_fin ho W0 WS E0 src sv T tv rb G st x hS hT hO hR) rfl rfl ?_; rintro _ H1 ⟨rfl, X1⟩
 have W1 := X1.wf; have E1 := E0.trans X1
 have hA := X1.keep _ _ hA
 have n1 := X1.n
 refine o_nil ?_
 refine o_asP ?_
 refine o_nilP ?_
 refine w_seq ?_
 refine w_srP ?_
 refine o_mvP ?_
 refine o_stepP ?_
 refine o_cl rfl rfl tS rfl (op_fin ho W0 W1 E1 ho81 tx ho69 src sv T tv rb G st x hS hT hO (hR.ext X1) (6)) rfl rfl ?_; rintro _ H2 ⟨v2, st2, x2, hres2, rfl, R2, F2⟩
 obtain ⟨nv2, hA2, hN2⟩ := R2.at_
 have W2 := R2.w; have E2 := R2.e; have FF2 := ((Fr2.refl WS).trans WS (Fr2.ofExt X1)).trans WS F2; have hal2 := R2.al
 refine o_nil ?_
 refine o_asP ?_
 refine o_nilP ?_
 refine w_srP ?_
 refine o_mvP ?_
 refine o_rdP (r_ne (a := v2) (b := 0) tE tE) rfl rfl ?_
 refine o_nilP ?_
 refine w_cond tE (fun hB3 => ?_) (fun hB3 => ?_)
 ·have hc3 := dec_t hB3
  refine w_srP ?_
  refine o_mvP ?_
  refine o_mvP ?_
  refine o_mvP ?_
  refine o_mvP ?_
  refine o_clP rfl rfl tS rfl ((ih f (by omega)).un _ W2 E2 G st2 x2 R2 (by intro h; exact hm (by simp [pUn, pmD, hres2, hc3, h]))) rfl rfl (by rintro p H' ⟨ae, hbad, rfl, Wb, Eb, xb, Fb⟩; change _ ∧ _; exact ⟨rfl, ae, by simp [pUn, pmD, hres2, hc3, hbad], rfl, Wb, Eb, xb, FF2.trans WS Fb⟩) ?_; rintro _ H4 ⟨v4, st4, x4, hres4, rfl, R4, F4⟩
  obtain ⟨nv4, hA4, hN4⟩ := R4.at_
  have W4 := R4.w; have E4 := R4.e; have FF4 := FF2.trans WS F4; have hal4 := R4.al
  refine o_stepP ?_
  refine o_nw W4 (a_build1 Try.underlying39 Ty.csz3 Ty.zero3 rfl tE rfl (by decide)) rfl rfl rfl (by simp) ?_; intro H5 n5 W5 X5 A5
  have E5 := E4.trans X5
  have hA4 := X5.keep _ _ hA4
  have L5 : SI H5 [v4] (freshSl (H4.n) 1 1) := si_fresh (ks := [v4]) A5 (by simp)
  refine o_nil ?_
  refine o_stepP ?_
  refine o_cl rfl rfl tS rfl (node_fin ho W0 W5 E5 src sv T tv rb G st4 x4 hS hT hO (R4.ext X5) (21) (plF src T st.a) (v2) [] [v4] _ (L5) (node_ok (k := 21) (a := plF src T st.a) (n := v2) (nm := []) (ks := [v4]) (st := st4) (by intro h; exact hm (by simp [pUn, pmD, hres2, hres4, hc3, h]))).1 (node_ok (k := 21) (a := plF src T st.a) (n := v2) (nm := []) (ks := [v4]) (st := st4) (by intro h; exact hm (by simp [pUn, pmD, hres2, hres4, hc3, h]))).2) rfl rfl ?_; rintro _ H6 ⟨v6, st6, x6, hres6, rfl, R6, F6⟩
  obtain ⟨nv6, hA6, hN6⟩ := R6.at_
  have W6 := R6.w; have E6 := R6.e; have FF6 := (FF4.trans WS (Fr2.ofExt X5)).trans WS F6; have hal6 := R6.al
  refine o_nil ?_
  refine o_asP ?_
  refine o_nilP ?_
  refine w_ret ?_
  change _ ∧ _
  refine ⟨rfl, .int .i64 (v6), (show resultA Try.prog [.tmp 2] _ = _ from tR), ?_⟩
  try dsimp only
  exact ⟨_, st6, x6, by simp [pUn, pmD, hres2, hres4, hres6, hc3], rfl, R6, FF6⟩
 ·have hc3 := dec_fn hB3
  refine w_skip ?_
  refine w_srP ?_
  refine o_mvP ?_
  refine o_clP rfl rfl tS rfl ((ih f (by omega)).post _ W2 E2 G st2 x2 R2 (by intro h; exact hm (by simp [pUn, pmD, hres2, hc3, h]))) rfl rfl (by rintro p H' ⟨ae, hbad, rfl, Wb, Eb, xb, Fb⟩; change _ ∧ _; exact ⟨rfl, ae, by simp [pUn, pmD, hres2, hc3, hbad], rfl, Wb, Eb, xb, FF2.trans WS Fb⟩) ?_; rintro _ H7 ⟨v7, st7, x7, hres7, rfl, R7, F7⟩
  obtain ⟨nv7, hA7, hN7⟩ := R7.at_
  have W7 := R7.w; have E7 := R7.e; have FF7 := FF2.trans WS F7; have hal7 := R7.al
  refine o_asP ?_
  refine o_nilP ?_
  refine w_ret ?_
  change _ ∧ _
  refine ⟨rfl, .int .i64 (v7), (show resultA Try.prog [.tmp 2] _ = _ from tR), ?_⟩
  try dsimp only
  exact ⟨_, st7, x7, by simp [pUn, pmD, hres2, hres7, hc3], rfl, R7, FF7⟩
end Go.Proofs.Ytehmhhlhlipbnaa.Vs
