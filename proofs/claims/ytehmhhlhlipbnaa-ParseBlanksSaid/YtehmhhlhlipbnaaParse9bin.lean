/-
 The rest of the reader's functions.
-/
import Derived.Test.YtehmhhlhlipbnaaParse8
set_option autoImplicit false
set_option linter.unusedVariables false
set_option linter.unusedSimpArgs false
namespace Go.Proofs.Ytehmhhlhlipbnaa.Vs
open Go.VI Go.Proofs
variable {orc : CallF}
set_option maxRecDepth 100000 in
set_option maxHeartbeats 4000000 in
theorem bin_fin (ho : NoOrcBut [7, 21, 69, 81] orc) {H0 HS : AH} (W0 : Wf H0) (WS : Wf HS) (ES : Ext H0 HS) (ho81 : ∃ sg, ∀ H, orc 81 [] H = some (.ret sg, H)) (tx : Nat → List UInt8) (ho69 : ∀ k : Nat, k < 67 → ∀ H, orc 69 [.int .i64 (k : Int)] H = some (.ret (.str (tx k)), H)) (src : List UInt8) (sv : AV) (T : List TK) (tv : AV) (rb : Nat) (G : LK → Prop) (st : PS) (x : LK) (hS : SB H0 5 src sv) (hT : TS H0 T tv) (hO : TOk src T) (hR : RS H0 sv tv T.length rb G HS st x) (f : Nat) (ih : ∀ g, g ≤ f → IH orc H0 sv tv rb tx src T g) (lv : Int) (h1 : 1 ≤ lv) (h6 : lv ≤ 6) (hm : pBin tx src T (f + 1) lv st ≠ none) : FinP Try.prog orc 87 [.ptr (.mt (rb)) (0), .int .i64 (lv)] HS (fun r H' => OkR H0 sv tv T.length rb G HS x (pBin tx src T (f + 1) lv st) (AV.int .i64) r H') (fun r H' => BadR H0 rb HS x (pBin tx src T (f + 1) lv st) r H') := by
 have E0 := ES
 obtain ⟨nv, hA, hN⟩ := hR.at_; have hr0 := hR.r0; have hTl := hO.len; have hal := hR.al; have hSb := hS.bound; have hrbl := WS.lt hA
 refine fin_ofP Try.func87 rfl (by rw [Try.ntmps87]; simp) (ho _ rfl _ _) ?_
 rw [Try.ntmps87]
 refine w_srP ?_
 refine o_asP ?_
 refine o_nilP ?_
 refine w_seq ?_
 refine w_srP ?_
 refine o_mvP ?_
 refine o_rdP (r_gt (a := lv) (b := 5) tE tE) rfl rfl ?_
 refine o_nilP ?_
 refine w_cond tE (fun hB1 => ?_) (fun hB1 => ?_)
 ·have hc1 := dec_t hB1
  refine w_srP ?_
  refine o_mvP ?_
  refine o_clP rfl rfl tS rfl ((ih f (by omega)).un _ WS E0 G st x hR (by intro h; exact hm (by simp [pBin, pmD, hc1, h]))) rfl rfl (by rintro p H' ⟨ae, hbad, rfl, Wb, Eb, xb, Fb⟩; change _ ∧ _; exact ⟨rfl, ae, by simp [pBin, pmD, hc1, hbad], rfl, Wb, Eb, xb, (Fr2.refl WS).trans WS Fb⟩) ?_; rintro _ H2 ⟨v2, st2, x2, hres2, rfl, R2, F2⟩
  obtain ⟨nv2, hA2, hN2⟩ := R2.at_
  have W2 := R2.w; have E2 := R2.e; have FF2 := (Fr2.refl WS).trans WS F2; have hal2 := R2.al
  refine o_asP ?_
  refine o_nilP ?_
  refine w_ret ?_
  change _ ∧ _
  refine ⟨rfl, .int .i64 (v2), (show resultA Try.prog [.tmp 4] _ = _ from tR), ?_⟩
  try dsimp only
  exact ⟨_, st2, x2, by simp [pBin, pmD, hres2, hc1], rfl, R2, FF2⟩
 ·have hc1 := dec_f hB1
  refine w_skip ?_
  refine w_srP ?_
  refine o_mvP ?_
  refine o_mvP ?_
  refine o_rdP (r_addE (a := lv) (b := 1) (c := lv + 1) tE tE (by omega) (by omega) (by omega)) rfl rfl ?_
  refine o_clP rfl rfl tS rfl ((ih f (by omega)).bin (lv + 1) (by omega) (by omega) _ WS E0 G st x hR (by intro h; exact hm (by simp [pBin, pmD, hc1, h]))) rfl rfl (by rintro p H' ⟨ae, hbad, rfl, Wb, Eb, xb, Fb⟩; change _ ∧ _; exact ⟨rfl, ae, by simp [pBin, pmD, hc1, hbad], rfl, Wb, Eb, xb, (Fr2.refl WS).trans WS Fb⟩) ?_; rintro _ H3 ⟨v3, st3, x3, hres3, rfl, R3, F3⟩
  obtain ⟨nv3, hA3, hN3⟩ := R3.at_
  have W3 := R3.w; have E3 := R3.e; have FF3 := (Fr2.refl WS).trans WS F3; have hal3 := R3.al
  refine o_asP ?_
  refine o_nilP ?_
  refine w_block ?_
  refine w_loop (fun m s => ∃ (e : Env) (H : AH) (stL : PS) (xL : LK) (nvL : AV) (eL : Int), s = ⟨e, H, []⟩ ∧ e.val 0 = .ptr (.mt (rb)) (0) ∧ e.val 1 = .int .i64 (lv) ∧ e.val 4 = .int .i64 (0) ∧ e.val 5 = .int .i64 (eL) ∧ Wf H ∧ Ext H0 H ∧ H.at (rb) = some (.row [sv, tv, .int .i64 (((stL.a : Nat) : Int)), nvL] 58 false none) ∧ (m ≤ f) ∧ (pBin tx src T (f + 1) lv st = pBinGo tx src T m lv eL stL) ∧ (RS H0 sv tv T.length rb G H stL xL) ∧ (Fr2 rb HS x H xL)) (f) ⟨_, H3, st3, x3, _, v3, rfl, tV, tV, tV, tV, W3, E3, hA3, (Nat.le_refl f), (by simp [pBin, pmD, hres3, hc1]), R3, FF3⟩ ?_
  intro m s hi
  obtain ⟨e, H4, stL, xL, nvL, eL, rfl, vt0, vt1, vt4, vt5, W4, E4, hA3, hmle, heq, R, F⟩ := hi
  have vA := And.intro vt0 (And.intro vt1 (And.intro vt4 vt5))
  have l4_0 := W4.lt hA3
  have hmL := hm; rw [heq] at hmL
  obtain ⟨fu, rfl⟩ : ∃ q, m = q + 1 := by cases m with | zero => exact absurd rfl hmL | succ q => exact ⟨q, rfl⟩
  refine w_block ?_
  refine w_srP ?_
  refine o_mvP ?_
  refine o_stepP ?_
  refine o_cl rfl rfl tS rfl (place_fin ho W0 W4 E4 src sv T tv rb G stL xL hS hT hO R) rfl rfl ?_; rintro _ H5 ⟨rfl, X5⟩
  have W5 := X5.wf; have E5 := E4.trans X5
  have hA3 := X5.keep _ _ hA3
  have n5 := X5.n
  refine o_nil ?_
  refine o_asP ?_
  refine o_nilP ?_
  refine w_srP ?_
  refine o_mvP ?_
  refine o_mvP ?_
  refine o_stepP ?_
  refine o_cl rfl rfl tS rfl (op_fin ho W0 W5 E5 ho81 tx ho69 src sv T tv rb G stL xL hS hT hO (R.ext X5) (lv)) rfl rfl ?_; rintro _ H6 ⟨v6, st6, x6, hres6, rfl, R6, F6⟩
  obtain ⟨nv6, hA6, hN6⟩ := R6.at_
  have W6 := R6.w; have E6 := R6.e; have FF6 := (F.trans WS (Fr2.ofExt X5)).trans WS F6; have hal6 := R6.al
  refine o_nil ?_
  refine o_asP ?_
  refine o_nilP ?_
  refine w_seq ?_
  refine w_srP ?_
  refine o_mvP ?_
  refine o_rdP (r_eq (a := v6) (b := 0) tE tE) rfl rfl ?_
  refine o_nilP ?_
  refine w_cond tE (fun hB7 => ?_) (fun hB7 => ?_)
  ·have hc7 := dec_t hB7
   refine w_srP ?_
   refine o_mvP ?_
   refine o_asP ?_
   refine o_nilP ?_
   refine w_ret ?_
   change _ ∧ _
   refine ⟨rfl, .int .i64 (eL), (show resultA Try.prog [.tmp 4] _ = _ from tR), ?_⟩
   try dsimp only
   exact ⟨_, st6, x6, by rw [heq]; simp [pBinGo, pmD, hres6, hc1, hc7], rfl, R6, FF6⟩
  ·have hc7 := dec_f hB7
   refine w_skip ?_
   refine w_srP ?_
   refine o_mvP ?_
   refine o_mvP ?_
   refine o_mvP ?_
   refine o_mvP ?_
   refine o_mvP ?_
   refine o_mvP ?_
   refine o_rdP (r_addE (a := lv) (b := 1) (c := lv + 1) tE tE (by omega) (by omega) (by omega)) rfl rfl ?_
   refine o_clP rfl rfl tS rfl ((ih fu (by omega)).bin (lv + 1) (by omega) (by omega) _ W6 E6 G st6 x6 R6 (by intro h; exact hmL (by simp [pBinGo, pmD, hres6, hc1, hc7, h]))) rfl rfl (by rintro p H' ⟨ae, hbad, rfl, Wb, Eb, xb, Fb⟩; change _ ∧ _; exact ⟨rfl, ae, by rw [heq]; simp [pBinGo, pmD, hres6, hc1, hc7, hbad], rfl, Wb, Eb, xb, FF6.trans WS Fb⟩) ?_; rintro _ H8 ⟨v8, st8, x8, hres8, rfl, R8, F8⟩
   obtain ⟨nv8, hA8, hN8⟩ := R8.at_
   have W8 := R8.w; have E8 := R8.e; have FF8 := FF6.trans WS F8; have hal8 := R8.al
   refine o_stepP ?_
   refine o_nw W8 (a_build2 Try.underlying39 Ty.csz3 Ty.zero3 tE tE) rfl rfl rfl (by simp) ?_; intro H9 n9 W9 X9 A9
   have E9 := E8.trans X9
   have hA8 := X9.keep _ _ hA8
   have L9 : SI H9 [eL, v8] (freshSl (H8.n) 2 2) := si_fresh (ks := [eL, v8]) A9 (by simp)
   refine o_nil ?_
   refine o_stepP ?_
   refine o_cl rfl rfl tS rfl (node_fin ho W0 W9 E9 src sv T tv rb G st8 x8 hS hT hO (R8.ext X9) (22) (plF src T stL.a) (v6) [] [eL, v8] _ (L9) (node_ok (k := 22) (a := plF src T stL.a) (n := v6) (nm := []) (ks := [eL, v8]) (st := st8) (by intro h; exact hmL (by simp [pBinGo, pmD, hres6, hres8, hc1, hc7, h]))).1 (node_ok (k := 22) (a := plF src T stL.a) (n := v6) (nm := []) (ks := [eL, v8]) (st := st8) (by intro h; exact hmL (by simp [pBinGo, pmD, hres6, hres8, hc1, hc7, h]))).2) rfl rfl ?_; rintro _ H10 ⟨v10, st10, x10, hres10, rfl, R10, F10⟩
   obtain ⟨nv10, hA10, hN10⟩ := R10.at_
   have W10 := R10.w; have E10 := R10.e; have FF10 := (FF8.trans WS (Fr2.ofExt X9)).trans WS F10; have hal10 := R10.al
   refine o_nil ?_
   refine o_asP ?_
   refine o_nilP ?_
   refine w_srP ?_
   refine o_mvP ?_
   refine o_rdP (r_eq (a := lv) (b := 3) tE tE) rfl rfl ?_
   refine o_nilP ?_
   refine w_cond tE (fun hB11 => ?_) (fun hB11 => ?_)
   ·have hc11 := dec_t hB11
    refine w_srP ?_
    refine o_mvP ?_
    refine o_asP ?_
    refine o_nilP ?_
    refine w_ret ?_
    change _ ∧ _
    refine ⟨rfl, .int .i64 (v10), (show resultA Try.prog [.tmp 4] _ = _ from tR), ?_⟩
    try dsimp only
    exact ⟨_, st10, x10, by rw [heq]; simp [pBinGo, pmD, hres6, hres8, hres10, hc1, hc7, if_pos hc11], rfl, R10, FF10⟩
   ·have hc11 := dec_f hB11
    refine w_skip ?_
    exact ⟨fu, (by omega), _, H10, st10, x10, _, v10, rfl, tV, tV, tV, tV, W10, E10, hA10, (by omega), (heq.trans (by simp [pBinGo, pmD, hres6, hres8, hres10, hc1, hc7, hc11])), R10, FF10⟩
end Go.Proofs.Ytehmhhlhlipbnaa.Vs
