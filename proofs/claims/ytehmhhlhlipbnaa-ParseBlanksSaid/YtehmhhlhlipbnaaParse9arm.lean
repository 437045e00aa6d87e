/-
 The rest of the reader's functions.
-/
import Derived.Test.YtehmhhlhlipbnaaParse9knd1
set_option autoImplicit false
set_option linter.unusedVariables false
set_option linter.unusedSimpArgs false
namespace Go.Proofs.Ytehmhhlhlipbnaa.Vs
open Go.VI Go.Proofs
variable {orc : CallF}
set_option maxRecDepth 100000 in
set_option maxHeartbeats 4000000 in
theorem arm_fin (ho : NoOrcBut [7, 21, 69, 81] orc) {H0 HS : AH} (W0 : Wf H0) (WS : Wf HS) (ES : Ext H0 HS) (ho81 : ∃ sg, ∀ H, orc 81 [] H = some (.ret sg, H)) (tx : Nat → List UInt8) (ho69 : ∀ k : Nat, k < 67 → ∀ H, orc 69 [.int .i64 (k : Int)] H = some (.ret (.str (tx k)), H)) (src : List UInt8) (sv : AV) (T : List TK) (tv : AV) (rb : Nat) (G : LK → Prop) (st : PS) (x : LK) (hS : SB H0 5 src sv) (hT : TS H0 T tv) (hO : TOk src T) (hR : RS H0 sv tv T.length rb G HS st x) (f : Nat) (ih : ∀ g, g ≤ f → IH orc H0 sv tv rb tx src T g) (hm : pArm tx src T (f + 1) st ≠ none) : FinP Try.prog orc 88 [.ptr (.mt (rb)) (0)] HS (fun r H' => OkR H0 sv tv T.length rb G HS x (pArm tx src T (f + 1) st) (AV.int .i64) r H') (fun r H' => BadR H0 rb HS x (pArm tx src T (f + 1) st) r H') := by
 have E0 := ES
 obtain ⟨nv, hA, hN⟩ := hR.at_; have hr0 := hR.r0; have hTl := hO.len; have hal := hR.al; have hSb := hS.bound; have hrbl := WS.lt hA
 refine fin_ofP Try.func88 rfl (by rw [Try.ntmps88]; simp) (ho _ rfl _ _) ?_
 rw [Try.ntmps88]
 refine w_srP ?_
 refine o_asP ?_
 refine o_nilP ?_
 refine w_srP ?_
 refine o_mvP ?_
 refine o_clP rfl rfl tS rfl (want_ct ho W0 ho81 tx ho69 src sv T tv rb hS hT hO [99, 97, 115, 101] _ WS E0 G st x hR (by intro h; exact hm (by simp [pArm, pmD, h]))) rfl rfl (by rintro p H' ⟨ae, hbad, rfl, Wb, Eb, xb, Fb⟩; change _ ∧ _; exact ⟨rfl, ae, by simp [pArm, pmD, hbad], rfl, Wb, Eb, xb, (Fr2.refl WS).trans WS Fb⟩) ?_; rintro _ H1 ⟨v1, st1, x1, hres1, rfl, R1, F1⟩
 obtain ⟨nv1, hA1, hN1⟩ := R1.at_
 have W1 := R1.w; have E1 := R1.e; have FF1 := (Fr2.refl WS).trans WS F1; have hal1 := R1.al
 refine o_asP ?_
 refine o_nilP ?_
 refine w_srP ?_
 refine o_asP ?_
 refine o_nilP ?_
 refine w_seq ?_
 refine w_srP ?_
 refine o_mvP ?_
 refine o_stepP ?_
 refine o_cl rfl rfl tS rfl (knd_fin ho W0 W1 E1 src sv T tv rb G st1 x1 hS hT hO R1) rfl rfl ?_; rintro _ H2 ⟨rfl, X2⟩
 have W2 := X2.wf; have E2 := E1.trans X2
 have hA1 := X2.keep _ _ hA1
 have n2 := X2.n
 refine o_nil ?_
 refine o_rdP (r_eq (a := knF T st1.a) (b := 1) tE tE) rfl rfl ?_
 refine o_mvP ?_
 cases hg3 : (decide (knF T st1.a = 1) : Bool)
 ·have hg3 := dec_f hg3
  refine o_stepP ?_
  refine o_sk rfl ((wanted_of (b := false) rfl rfl rfl tV).trans rfl) ?_
  refine o_nil ?_
  refine o_stepP ?_
  refine o_sk rfl ((wanted_of (b := false) rfl rfl rfl tV).trans rfl) ?_
  refine o_nil ?_
  refine o_stepP ?_
  refine o_sk rfl ((wanted_of (b := false) rfl rfl rfl tV).trans rfl) ?_
  refine o_nil ?_
  refine o_stepP ?_
  refine o_sk rfl ((wanted_of (b := false) rfl rfl rfl tV).trans rfl) ?_
  refine o_nil ?_
  refine o_rdP (r_pick (t := false) tE (fun h => by cases h) (fun _ => tE)) rfl rfl ?_
  refine o_nilP ?_
  refine w_cond (t := false) tE (fun h => by cases h) (fun _ => ?_)
  refine w_skip ?_
  refine w_seq ?_
  refine w_srP ?_
  refine o_mvP ?_
  refine o_stepP ?_
  refine o_cl rfl rfl tS rfl (got_fin ho W0 W2 E2 ho81 tx ho69 src sv T tv rb G st1 x1 hS hT hO (R1.ext X2) [60, 45]) rfl rfl ?_; rintro _ H4 ⟨v4, st4, x4, hres4, rfl, R4, F4⟩
  obtain ⟨nv4, hA4, hN4⟩ := R4.at_
  have W4 := R4.w; have E4 := R4.e; have FF4 := (FF1.trans WS (Fr2.ofExt X2)).trans WS F4; have hal4 := R4.al
  refine o_nil ?_
  refine o_nilP ?_
  refine w_cond tE (fun hB5 => ?_) (fun hB5 => ?_)
  ·have hc5 := hB5
   refine w_srP ?_
   refine o_mvP ?_
   refine o_clP rfl rfl tS rfl ((ih f (by omega)).un _ W4 E4 G st4 x4 R4 (by intro h; exact hm (by simp [pArm, pmD, hres1, hres4, hg3, hc5, h]))) rfl rfl (by rintro p H' ⟨ae, hbad, rfl, Wb, Eb, xb, Fb⟩; change _ ∧ _; exact ⟨rfl, ae, by simp [pArm, pmD, hres1, hres4, hg3, hc5, hbad], rfl, Wb, Eb, xb, FF4.trans WS Fb⟩) ?_; rintro _ H6 ⟨v6, st6, x6, hres6, rfl, R6, F6⟩
   obtain ⟨nv6, hA6, hN6⟩ := R6.at_
   have W6 := R6.w; have E6 := R6.e; have FF6 := FF4.trans WS F6; have hal6 := R6.al
   refine o_asP ?_
   refine o_nilP ?_
   refine w_srP ?_
   refine o_mvP ?_
   refine o_mvP ?_
   refine o_mvP ?_
   refine o_mvP ?_
   refine o_mvP ?_
   refine o_clP rfl rfl tS rfl ((ih f (by omega)).block _ W6 E6 G st6 x6 R6 (by intro h; exact hm (by simp [pArm, pmD, hres1, hres4, hres6, hg3, hc5, h]))) rfl rfl (by rintro p H' ⟨ae, hbad, rfl, Wb, Eb, xb, Fb⟩; change _ ∧ _; exact ⟨rfl, ae, by simp [pArm, pmD, hres1, hres4, hres6, hg3, hc5, hbad], rfl, Wb, Eb, xb, FF6.trans WS Fb⟩) ?_; rintro _ H7 ⟨v7, st7, x7, hres7, rfl, R7, F7⟩
   obtain ⟨nv7, hA7, hN7⟩ := R7.at_
   have W7 := R7.w; have E7 := R7.e; have FF7 := FF6.trans WS F7; have hal7 := R7.al
   refine o_stepP ?_
   refine o_nw W7 (a_build2 Try.underlying39 Ty.csz3 Ty.zero3 tE tE) rfl rfl rfl (by simp) ?_; intro H8 n8 W8 X8 A8
   have E8 := E7.trans X8
   have hA7 := X8.keep _ _ hA7
   have L8 : SI H8 [v6, v7] (freshSl (H7.n) 2 2) := si_fresh (ks := [v6, v7]) A8 (by simp)
   refine o_nil ?_
   refine o_stepP ?_
   refine o_cl rfl rfl tS rfl (node_fin ho W0 W8 E8 src sv T tv rb G st7 x7 hS hT hO (R7.ext X8) (43) (v1) (0) [] [v6, v7] _ (L8) (node_ok (k := 43) (a := v1) (n := 0) (nm := []) (ks := [v6, v7]) (st := st7) (by intro h; exact hm (by simp [pArm, pmD, hres1, hres4, hres6, hres7, hg3, hc5, h]))).1 (node_ok (k := 43) (a := v1) (n := 0) (nm := []) (ks := [v6, v7]) (st := st7) (by intro h; exact hm (by simp [pArm, pmD, hres1, hres4, hres6, hres7, hg3, hc5, h]))).2) rfl rfl ?_; rintro _ H9 ⟨v9, st9, x9, hres9, rfl, R9, F9⟩
   obtain ⟨nv9, hA9, hN9⟩ := R9.at_
   have W9 := R9.w; have E9 := R9.e; have FF9 := (FF7.trans WS (Fr2.ofExt X8)).trans WS F9; have hal9 := R9.al
   refine o_nil ?_
   refine o_asP ?_
   refine o_nilP ?_
   refine w_ret ?_
   change _ ∧ _
   refine ⟨rfl, .int .i64 (v9), (show resultA Try.prog [.tmp 2] _ = _ from tR), ?_⟩
   try dsimp only
   exact ⟨_, st9, x9, by simp [pArm, pmD, hres1, hres4, hres6, hres7, hres9, hg3, hc5], rfl, R9, FF9⟩
  ·have hc5 := hB5
   refine w_skip ?_
   refine w_srP ?_
   refine o_mvP ?_
   refine o_clP rfl rfl tS rfl ((ih f (by omega)).expr _ W4 E4 G st4 x4 R4 (by intro h; exact hm (by simp [pArm, pmD, hres1, hres4, hg3, hc5, h]))) rfl rfl (by rintro p H' ⟨ae, hbad, rfl, Wb, Eb, xb, Fb⟩; change _ ∧ _; exact ⟨rfl, ae, by simp [pArm, pmD, hres1, hres4, hg3, hc5, hbad], rfl, Wb, Eb, xb, FF4.trans WS Fb⟩) ?_; rintro _ H10 ⟨v10, st10, x10, hres10, rfl, R10, F10⟩
   obtain ⟨nv10, hA10, hN10⟩ := R10.at_
   have W10 := R10.w; have E10 := R10.e; have FF10 := FF4.trans WS F10; have hal10 := R10.al
   refine o_asP ?_
   refine o_nilP ?_
   refine w_srP ?_
   refine o_mvP ?_
   refine o_clP rfl rfl tS rfl (want_ct ho W0 ho81 tx ho69 src sv T tv rb hS hT hO [60, 45, 61] _ W10 E10 G st10 x10 R10 (by intro h; exact hm (by simp [pArm, pmD, hres1, hres4, hres10, hg3, hc5, h]))) rfl rfl (by rintro p H' ⟨ae, hbad, rfl, Wb, Eb, xb, Fb⟩; change _ ∧ _; exact ⟨rfl, ae, by simp [pArm, pmD, hres1, hres4, hres10, hg3, hc5, hbad], rfl, Wb, Eb, xb, FF10.trans WS Fb⟩) ?_; rintro _ H11 ⟨v11, st11, x11, hres11, rfl, R11, F11⟩
   obtain ⟨nv11, hA11, hN11⟩ := R11.at_
   have W11 := R11.w; have E11 := R11.e; have FF11 := FF10.trans WS F11; have hal11 := R11.al
   refine o_nilP ?_
   refine w_srP ?_
   refine o_mvP ?_
   refine o_clP rfl rfl tS rfl ((ih f (by omega)).expr _ W11 E11 G st11 x11 R11 (by intro h; exact hm (by simp [pArm, pmD, hres1, hres4, hres10, hres11, hg3, hc5, h]))) rfl rfl (by rintro p H' ⟨ae, hbad, rfl, Wb, Eb, xb, Fb⟩; change _ ∧ _; exact ⟨rfl, ae, by simp [pArm, pmD, hres1, hres4, hres10, hres11, hg3, hc5, hbad], rfl, Wb, Eb, xb, FF11.trans WS Fb⟩) ?_; rintro _ H12 ⟨v12, st12, x12, hres12, rfl, R12, F12⟩
   obtain ⟨nv12, hA12, hN12⟩ := R12.at_
   have W12 := R12.w; have E12 := R12.e; have FF12 := FF11.trans WS F12; have hal12 := R12.al
   refine o_asP ?_
   refine o_nilP ?_
   refine w_srP ?_
   refine o_mvP ?_
   refine o_mvP ?_
   refine o_mvP ?_
   refine o_mvP ?_
   refine o_mvP ?_
   refine o_clP rfl rfl tS rfl ((ih f (by omega)).block _ W12 E12 G st12 x12 R12 (by intro h; exact hm (by simp [pArm, pmD, hres1, hres4, hres10, hres11, hres12, hg3, hc5, h]))) rfl rfl (by rintro p H' ⟨ae, hbad, rfl, Wb, Eb, xb, Fb⟩; change _ ∧ _; exact ⟨rfl, ae, by simp [pArm, pmD, hres1, hres4, hres10, hres11, hres12, hg3, hc5, hbad], rfl, Wb, Eb, xb, FF12.trans WS Fb⟩) ?_; rintro _ H13 ⟨v13, st13, x13, hres13, rfl, R13, F13⟩
   obtain ⟨nv13, hA13, hN13⟩ := R13.at_
   have W13 := R13.w; have E13 := R13.e; have FF13 := FF12.trans WS F13; have hal13 := R13.al
   refine o_stepP ?_
   refine o_nw W13 (a_build3 Try.underlying39 Ty.csz3 Ty.zero3 tE tE tE) rfl rfl rfl (by simp) ?_; intro H14 n14 W14 X14 A14
   have E14 := E13.trans X14
   have hA13 := X14.keep _ _ hA13
   have L14 : SI H14 [v10, v12, v13] (freshSl (H13.n) 3 3) := si_fresh (ks := [v10, v12, v13]) A14 (by simp)
   refine o_nil ?_
   refine o_stepP ?_
   refine o_cl rfl rfl tS rfl (node_fin ho W0 W14 E14 src sv T tv rb G st13 x13 hS hT hO (R13.ext X14) (44) (v1) (0) [] [v10, v12, v13] _ (L14) (node_ok (k := 44) (a := v1) (n := 0) (nm := []) (ks := [v10, v12, v13]) (st := st13) (by intro h; exact hm (by simp [pArm, pmD, hres1, hres4, hres10, hres11, hres12, hres13, hg3, hc5, h]))).1 (node_ok (k := 44) (a := v1) (n := 0) (nm := []) (ks := [v10, v12, v13]) (st := st13) (by intro h; exact hm (by simp [pArm, pmD, hres1, hres4, hres10, hres11, hres12, hres13, hg3, hc5, h]))).2) rfl rfl ?_; rintro _ H15 ⟨v15, st15, x15, hres15, rfl, R15, F15⟩
   obtain ⟨nv15, hA15, hN15⟩ := R15.at_
   have W15 := R15.w; have E15 := R15.e; have FF15 := (FF13.trans WS (Fr2.ofExt X14)).trans WS F15; have hal15 := R15.al
   refine o_nil ?_
   refine o_asP ?_
   refine o_nilP ?_
   refine w_ret ?_
   change _ ∧ _
   refine ⟨rfl, .int .i64 (v15), (show resultA Try.prog [.tmp 2] _ = _ from tR), ?_⟩
   try dsimp only
   exact ⟨_, st15, x15, by simp [pArm, pmD, hres1, hres4, hres10, hres11, hres12, hres13, hres15, hg3, hc5], rfl, R15, FF15⟩
 ·have hg3 := dec_t hg3
  refine o_rdP (r_move tE) rfl ((wanted_of (b := true) rfl rfl rfl tV).trans rfl) ?_
  refine o_stepP ?_
  refine o_cl rfl rfl tS rfl (knd1_fin ho W0 W2 E2 src sv T tv rb G st1 x1 hS hT hO (R1.ext X2)) rfl ((wanted_of (b := true) rfl rfl rfl tV).trans rfl) ?_; rintro _ H16 ⟨rfl, X16⟩
  have W16 := X16.wf; have E16 := E2.trans X16
  have hA1 := X16.keep _ _ hA1
  have n16 := X16.n
  refine o_nil ?_
  refine o_stepP ?_
  refine o_cl rfl rfl tS rfl (kind_fin ho W16 ho81 tx ho69 ([61])) rfl ((wanted_of (b := true) rfl rfl rfl tV).trans rfl) ?_; rintro _ H17 ⟨rfl, X17⟩
  have W17 := X17.wf; have E17 := E16.trans X17
  have hA1 := X17.keep _ _ hA1
  have n17 := X17.n
  refine o_nil ?_
  refine o_rdP (r_eq (a := knF T (st1.a + 1)) (b := kindF tx ([61])) tE tE) rfl ((wanted_of (b := true) rfl rfl rfl tV).trans rfl) ?_
  refine o_rdP (r_pick (t := true) tE (fun _ => tE) (fun h => by cases h)) rfl rfl ?_
  refine o_nilP ?_
  refine w_cond tE (fun hB18 => ?_) (fun hB18 => ?_)
  ·have hc18 := dec_t hB18
   refine w_srP ?_
   refine o_mvP ?_
   refine o_clP rfl rfl tS rfl (name_ct ho W0 ho81 tx ho69 src sv T tv rb hS hT hO _ W17 E17 G st1 x1 (R1.ext ((X2.trans X16).trans X17)) (by intro h; exact hm (by simp [pArm, pmD, hres1, hg3, hc18, h]))) rfl rfl (by rintro p H' ⟨ae, hbad, rfl, Wb, Eb, xb, Fb⟩; change _ ∧ _; exact ⟨rfl, ae, by simp [pArm, pmD, hres1, hg3, hc18, hbad], rfl, Wb, Eb, xb, (FF1.trans WS (Fr2.ofExt ((X2.trans X16).trans X17))).trans WS Fb⟩) ?_; rintro _ H19 ⟨v19, st19, x19, hres19, rfl, R19, F19⟩
   obtain ⟨nv19, hA19, hN19⟩ := R19.at_
   have W19 := R19.w; have E19 := R19.e; have FF19 := (FF1.trans WS (Fr2.ofExt ((X2.trans X16).trans X17))).trans WS F19; have hal19 := R19.al
   refine o_asP ?_
   refine o_nilP ?_
   refine w_srP ?_
   refine o_mvP ?_
   refine o_clP rfl rfl tS rfl (want_ct ho W0 ho81 tx ho69 src sv T tv rb hS hT hO [61] _ W19 E19 G st19 x19 R19 (by intro h; exact hm (by simp [pArm, pmD, hres1, hres19, hg3, hc18, h]))) rfl rfl (by rintro p H' ⟨ae, hbad, rfl, Wb, Eb, xb, Fb⟩; change _ ∧ _; exact ⟨rfl, ae, by simp [pArm, pmD, hres1, hres19, hg3, hc18, hbad], rfl, Wb, Eb, xb, FF19.trans WS Fb⟩) ?_; rintro _ H20 ⟨v20, st20, x20, hres20, rfl, R20, F20⟩
   obtain ⟨nv20, hA20, hN20⟩ := R20.at_
   have W20 := R20.w; have E20 := R20.e; have FF20 := FF19.trans WS F20; have hal20 := R20.al
   refine o_nilP ?_
   refine w_srP ?_
   refine o_mvP ?_
   refine o_stepP ?_
   refine o_cl rfl rfl tS rfl (is_fin ho W0 W20 E20 ho81 tx ho69 src sv T tv rb G st20 x20 hS hT hO R20 [60, 45]) rfl rfl ?_; rintro _ H21 ⟨rfl, X21⟩
   have W21 := X21.wf; have E21 := E20.trans X21
   have hA20 := X21.keep _ _ hA20
   have n21 := X21.n
   refine o_nil ?_
   refine o_rdP (r_not tE) rfl rfl ?_
   refine o_nilP ?_
   refine w_cond tE (fun hB22 => ?_) (fun hB22 => ?_)
   ·have hc22 := (not_t hB22)
    refine w_regionP ?_
    refine o_mvP ?_
    exact o_clP rfl rfl tS rfl (fail_fin ho W0 W21 E21 src sv T tv rb G st20 x20 hS hT hO (R20.ext X21)) rfl rfl (by rintro p H' ⟨rfl, X⟩; change _ ∧ _; exact ⟨rfl, _, by simp [pArm, pmD, hres1, hres19, hres20, hg3, hc18, hc22], rfl, X.wf, E21.trans X, _, (FF20.trans WS (Fr2.ofExt X21)).trans WS (Fr2.ofExt X)⟩) (fun _ _ h => False.elim h)
   ·have hc22 := (not_f hB22)
    refine w_skip ?_
    refine w_seq ?_
    refine w_srP ?_
    refine o_mvP ?_
    refine o_stepP ?_
    refine o_cl rfl rfl tS rfl (got_fin ho W0 W21 E21 ho81 tx ho69 src sv T tv rb G st20 x20 hS hT hO (R20.ext X21) [60, 45]) rfl rfl ?_; rintro _ H23 ⟨v23, st23, x23, hres23, rfl, R23, F23⟩
    obtain ⟨nv23, hA23, hN23⟩ := R23.at_
    have W23 := R23.w; have E23 := R23.e; have FF23 := (FF20.trans WS (Fr2.ofExt X21)).trans WS F23; have hal23 := R23.al
    refine o_nil ?_
    refine o_nilP ?_
    refine w_cond tE (fun hB24 => ?_) (fun hB24 => ?_)
    ·have hc24 := hB24
     refine w_srP ?_
     refine o_mvP ?_
     refine o_clP rfl rfl tS rfl ((ih f (by omega)).un _ W23 E23 G st23 x23 R23 (by intro h; exact hm (by simp [pArm, pmD, hres1, hres19, hres20, hres23, hg3, hc18, hc22, hc24, h]))) rfl rfl (by rintro p H' ⟨ae, hbad, rfl, Wb, Eb, xb, Fb⟩; change _ ∧ _; exact ⟨rfl, ae, by simp [pArm, pmD, hres1, hres19, hres20, hres23, hg3, hc18, hc22, hc24, hbad], rfl, Wb, Eb, xb, FF23.trans WS Fb⟩) ?_; rintro _ H25 ⟨v25, st25, x25, hres25, rfl, R25, F25⟩
     obtain ⟨nv25, hA25, hN25⟩ := R25.at_
     have W25 := R25.w; have E25 := R25.e; have FF25 := FF23.trans WS F25; have hal25 := R25.al
     refine o_asP ?_
     refine o_nilP ?_
     refine w_srP ?_
     refine o_mvP ?_
     refine o_mvP ?_
     refine o_mvP ?_
     refine o_mvP ?_
     refine o_mvP ?_
     refine o_clP rfl rfl tS rfl ((ih f (by omega)).block _ W25 E25 G st25 x25 R25 (by intro h; exact hm (by simp [pArm, pmD, hres1, hres19, hres20, hres23, hres25, hg3, hc18, hc22, hc24, h]))) rfl rfl (by rintro p H' ⟨ae, hbad, rfl, Wb, Eb, xb, Fb⟩; change _ ∧ _; exact ⟨rfl, ae, by simp [pArm, pmD, hres1, hres19, hres20, hres23, hres25, hg3, hc18, hc22, hc24, hbad], rfl, Wb, Eb, xb, FF25.trans WS Fb⟩) ?_; rintro _ H26 ⟨v26, st26, x26, hres26, rfl, R26, F26⟩
     obtain ⟨nv26, hA26, hN26⟩ := R26.at_
     have W26 := R26.w; have E26 := R26.e; have FF26 := FF25.trans WS F26; have hal26 := R26.al
     refine o_stepP ?_
     refine o_nw W26 (a_build2 Try.underlying39 Ty.csz3 Ty.zero3 tE tE) rfl rfl rfl (by simp) ?_; intro H27 n27 W27 X27 A27
     have E27 := E26.trans X27
     have hA26 := X27.keep _ _ hA26
     have L27 : SI H27 [v25, v26] (freshSl (H26.n) 2 2) := si_fresh (ks := [v25, v26]) A27 (by simp)
     refine o_nil ?_
     refine o_stepP ?_
     refine o_cl rfl rfl tS rfl (node_fin ho W0 W27 E27 src sv T tv rb G st26 x26 hS hT hO (R26.ext X27) (43) (v1) (0) v19 [v25, v26] _ (L27) (node_ok (k := 43) (a := v1) (n := 0) (nm := v19) (ks := [v25, v26]) (st := st26) (by intro h; exact hm (by simp [pArm, pmD, hres1, hres19, hres20, hres23, hres25, hres26, hg3, hc18, hc22, hc24, h]))).1 (node_ok (k := 43) (a := v1) (n := 0) (nm := v19) (ks := [v25, v26]) (st := st26) (by intro h; exact hm (by simp [pArm, pmD, hres1, hres19, hres20, hres23, hres25, hres26, hg3, hc18, hc22, hc24, h]))).2) rfl rfl ?_; rintro _ H28 ⟨v28, st28, x28, hres28, rfl, R28, F28⟩
     obtain ⟨nv28, hA28, hN28⟩ := R28.at_
     have W28 := R28.w; have E28 := R28.e; have FF28 := (FF26.trans WS (Fr2.ofExt X27)).trans WS F28; have hal28 := R28.al
     refine o_nil ?_
     refine o_asP ?_
     refine o_nilP ?_
     refine w_ret ?_
     change _ ∧ _
     refine ⟨rfl, .int .i64 (v28), (show resultA Try.prog [.tmp 2] _ = _ from tR), ?_⟩
     try dsimp only
     exact ⟨_, st28, x28, by simp [pArm, pmD, hres1, hres19, hres20, hres23, hres25, hres26, hres28, hg3, hc18, hc22, hc24], rfl, R28, FF28⟩
    ·have hc24 := hB24
     refine w_skip ?_
     refine w_srP ?_
     refine o_mvP ?_
     refine o_clP rfl rfl tS rfl ((ih f (by omega)).expr _ W23 E23 G st23 x23 R23 (by intro h; exact hm (by simp [pArm, pmD, hres1, hres19, hres20, hres23, hg3, hc18, hc22, hc24, h]))) rfl rfl (by rintro p H' ⟨ae, hbad, rfl, Wb, Eb, xb, Fb⟩; change _ ∧ _; exact ⟨rfl, ae, by simp [pArm, pmD, hres1, hres19, hres20, hres23, hg3, hc18, hc22, hc24, hbad], rfl, Wb, Eb, xb, FF23.trans WS Fb⟩) ?_; rintro _ H29 ⟨v29, st29, x29, hres29, rfl, R29, F29⟩
     obtain ⟨nv29, hA29, hN29⟩ := R29.at_
     have W29 := R29.w; have E29 := R29.e; have FF29 := FF23.trans WS F29; have hal29 := R29.al
     refine o_asP ?_
     refine o_nilP ?_
     refine w_srP ?_
     refine o_mvP ?_
     refine o_clP rfl rfl tS rfl (want_ct ho W0 ho81 tx ho69 src sv T tv rb hS hT hO [60, 45, 61] _ W29 E29 G st29 x29 R29 (by intro h; exact hm (by simp [pArm, pmD, hres1, hres19, hres20, hres23, hres29, hg3, hc18, hc22, hc24, h]))) rfl rfl (by rintro p H' ⟨ae, hbad, rfl, Wb, Eb, xb, Fb⟩; change _ ∧ _; exact ⟨rfl, ae, by simp [pArm, pmD, hres1, hres19, hres20, hres23, hres29, hg3, hc18, hc22, hc24, hbad], rfl, Wb, Eb, xb, FF29.trans WS Fb⟩) ?_; rintro _ H30 ⟨v30, st30, x30, hres30, rfl, R30, F30⟩
     obtain ⟨nv30, hA30, hN30⟩ := R30.at_
     have W30 := R30.w; have E30 := R30.e; have FF30 := FF29.trans WS F30; have hal30 := R30.al
     refine o_nilP ?_
     refine w_srP ?_
     refine o_mvP ?_
     refine o_clP rfl rfl tS rfl ((ih f (by omega)).expr _ W30 E30 G st30 x30 R30 (by intro h; exact hm (by simp [pArm, pmD, hres1, hres19, hres20, hres23, hres29, hres30, hg3, hc18, hc22, hc24, h]))) rfl rfl (by rintro p H' ⟨ae, hbad, rfl, Wb, Eb, xb, Fb⟩; change _ ∧ _; exact ⟨rfl, ae, by simp [pArm, pmD, hres1, hres19, hres20, hres23, hres29, hres30, hg3, hc18, hc22, hc24, hbad], rfl, Wb, Eb, xb, FF30.trans WS Fb⟩) ?_; rintro _ H31 ⟨v31, st31, x31, hres31, rfl, R31, F31⟩
     obtain ⟨nv31, hA31, hN31⟩ := R31.at_
     have W31 := R31.w; have E31 := R31.e; have FF31 := FF30.trans WS F31; have hal31 := R31.al
     refine o_asP ?_
     refine o_nilP ?_
     refine w_srP ?_
     refine o_mvP ?_
     refine o_mvP ?_
     refine o_mvP ?_
     refine o_mvP ?_
     refine o_mvP ?_
     refine o_clP rfl rfl tS rfl ((ih f (by omega)).block _ W31 E31 G st31 x31 R31 (by intro h; exact hm (by simp [pArm, pmD, hres1, hres19, hres20, hres23, hres29, hres30, hres31, hg3, hc18, hc22, hc24, h]))) rfl rfl (by rintro p H' ⟨ae, hbad, rfl, Wb, Eb, xb, Fb⟩; change _ ∧ _; exact ⟨rfl, ae, by simp [pArm, pmD, hres1, hres19, hres20, hres23, hres29, hres30, hres31, hg3, hc18, hc22, hc24, hbad], rfl, Wb, Eb, xb, FF31.trans WS Fb⟩) ?_; rintro _ H32 ⟨v32, st32, x32, hres32, rfl, R32, F32⟩
     obtain ⟨nv32, hA32, hN32⟩ := R32.at_
     have W32 := R32.w; have E32 := R32.e; have FF32 := FF31.trans WS F32; have hal32 := R32.al
     refine o_stepP ?_
     refine o_nw W32 (a_build3 Try.underlying39 Ty.csz3 Ty.zero3 tE tE tE) rfl rfl rfl (by simp) ?_; intro H33 n33 W33 X33 A33
     have E33 := E32.trans X33
     have hA32 := X33.keep _ _ hA32
     have L33 : SI H33 [v29, v31, v32] (freshSl (H32.n) 3 3) := si_fresh (ks := [v29, v31, v32]) A33 (by simp)
     refine o_nil ?_
     refine o_stepP ?_
     refine o_cl rfl rfl tS rfl (node_fin ho W0 W33 E33 src sv T tv rb G st32 x32 hS hT hO (R32.ext X33) (44) (v1) (0) [] [v29, v31, v32] _ (L33) (node_ok (k := 44) (a := v1) (n := 0) (nm := []) (ks := [v29, v31, v32]) (st := st32) (by intro h; exact hm (by simp [pArm, pmD, hres1, hres19, hres20, hres23, hres29, hres30, hres31, hres32, hg3, hc18, hc22, hc24, h]))).1 (node_ok (k := 44) (a := v1) (n := 0) (nm := []) (ks := [v29, v31, v32]) (st := st32) (by intro h; exact hm (by simp [pArm, pmD, hres1, hres19, hres20, hres23, hres29, hres30, hres31, hres32, hg3, hc18, hc22, hc24, h]))).2) rfl rfl ?_; rintro _ H34 ⟨v34, st34, x34, hres34, rfl, R34, F34⟩
     obtain ⟨nv34, hA34, hN34⟩ := R34.at_
     have W34 := R34.w; have E34 := R34.e; have FF34 := (FF32.trans WS (Fr2.ofExt X33)).trans WS F34; have hal34 := R34.al
     refine o_nil ?_
     refine o_asP ?_
     refine o_nilP ?_
     refine w_ret ?_
     change _ ∧ _
     refine ⟨rfl, .int .i64 (v34), (show resultA Try.prog [.tmp 2] _ = _ from tR), ?_⟩
     try dsimp only
     exact ⟨_, st34, x34, by simp [pArm, pmD, hres1, hres19, hres20, hres23, hres29, hres30, hres31, hres32, hres34, hg3, hc18, hc22, hc24], rfl, R34, FF34⟩
  ·have hc18 := dec_f hB18
   refine w_skip ?_
   refine w_seq ?_
   refine w_srP ?_
   refine o_mvP ?_
   refine o_stepP ?_
   refine o_cl rfl rfl tS rfl (got_fin ho W0 W17 E17 ho81 tx ho69 src sv T tv rb G st1 x1 hS hT hO (R1.ext ((X2.trans X16).trans X17)) [60, 45]) rfl rfl ?_; rintro _ H35 ⟨v35, st35, x35, hres35, rfl, R35, F35⟩
   obtain ⟨nv35, hA35, hN35⟩ := R35.at_
   have W35 := R35.w; have E35 := R35.e; have FF35 := (FF1.trans WS (Fr2.ofExt ((X2.trans X16).trans X17))).trans WS F35; have hal35 := R35.al
   refine o_nil ?_
   refine o_nilP ?_
   refine w_cond tE (fun hB36 => ?_) (fun hB36 => ?_)
   ·have hc36 := hB36
    refine w_srP ?_
    refine o_mvP ?_
    refine o_clP rfl rfl tS rfl ((ih f (by omega)).un _ W35 E35 G st35 x35 R35 (by intro h; exact hm (by simp [pArm, pmD, hres1, hres35, hg3, hc18, hc36, h]))) rfl rfl (by rintro p H' ⟨ae, hbad, rfl, Wb, Eb, xb, Fb⟩; change _ ∧ _; exact ⟨rfl, ae, by simp [pArm, pmD, hres1, hres35, hg3, hc18, hc36, hbad], rfl, Wb, Eb, xb, FF35.trans WS Fb⟩) ?_; rintro _ H37 ⟨v37, st37, x37, hres37, rfl, R37, F37⟩
    obtain ⟨nv37, hA37, hN37⟩ := R37.at_
    have W37 := R37.w; have E37 := R37.e; have FF37 := FF35.trans WS F37; have hal37 := R37.al
    refine o_asP ?_
    refine o_nilP ?_
    refine w_srP ?_
    refine o_mvP ?_
    refine o_mvP ?_
    refine o_mvP ?_
    refine o_mvP ?_
    refine o_mvP ?_
    refine o_clP rfl rfl tS rfl ((ih f (by omega)).block _ W37 E37 G st37 x37 R37 (by intro h; exact hm (by simp [pArm, pmD, hres1, hres35, hres37, hg3, hc18, hc36, h]))) rfl rfl (by rintro p H' ⟨ae, hbad, rfl, Wb, Eb, xb, Fb⟩; change _ ∧ _; exact ⟨rfl, ae, by simp [pArm, pmD, hres1, hres35, hres37, hg3, hc18, hc36, hbad], rfl, Wb, Eb, xb, FF37.trans WS Fb⟩) ?_; rintro _ H38 ⟨v38, st38, x38, hres38, rfl, R38, F38⟩
    obtain ⟨nv38, hA38, hN38⟩ := R38.at_
    have W38 := R38.w; have E38 := R38.e; have FF38 := FF37.trans WS F38; have hal38 := R38.al
    refine o_stepP ?_
    refine o_nw W38 (a_build2 Try.underlying39 Ty.csz3 Ty.zero3 tE tE) rfl rfl rfl (by simp) ?_; intro H39 n39 W39 X39 A39
    have E39 := E38.trans X39
    have hA38 := X39.keep _ _ hA38
    have L39 : SI H39 [v37, v38] (freshSl (H38.n) 2 2) := si_fresh (ks := [v37, v38]) A39 (by simp)
    refine o_nil ?_
    refine o_stepP ?_
    refine o_cl rfl rfl tS rfl (node_fin ho W0 W39 E39 src sv T tv rb G st38 x38 hS hT hO (R38.ext X39) (43) (v1) (0) [] [v37, v38] _ (L39) (node_ok (k := 43) (a := v1) (n := 0) (nm := []) (ks := [v37, v38]) (st := st38) (by intro h; exact hm (by simp [pArm, pmD, hres1, hres35, hres37, hres38, hg3, hc18, hc36, h]))).1 (node_ok (k := 43) (a := v1) (n := 0) (nm := []) (ks := [v37, v38]) (st := st38) (by intro h; exact hm (by simp [pArm, pmD, hres1, hres35, hres37, hres38, hg3, hc18, hc36, h]))).2) rfl rfl ?_; rintro _ H40 ⟨v40, st40, x40, hres40, rfl, R40, F40⟩
    obtain ⟨nv40, hA40, hN40⟩ := R40.at_
    have W40 := R40.w; have E40 := R40.e; have FF40 := (FF38.trans WS (Fr2.ofExt X39)).trans WS F40; have hal40 := R40.al
    refine o_nil ?_
    refine o_asP ?_
    refine o_nilP ?_
    refine w_ret ?_
    change _ ∧ _
    refine ⟨rfl, .int .i64 (v40), (show resultA Try.prog [.tmp 2] _ = _ from tR), ?_⟩
    try dsimp only
    exact ⟨_, st40, x40, by simp [pArm, pmD, hres1, hres35, hres37, hres38, hres40, hg3, hc18, hc36], rfl, R40, FF40⟩
   ·have hc36 := hB36
    refine w_skip ?_
    refine w_srP ?_
    refine o_mvP ?_
    refine o_clP rfl rfl tS rfl ((ih f (by omega)).expr _ W35 E35 G st35 x35 R35 (by intro h; exact hm (by simp [pArm, pmD, hres1, hres35, hg3, hc18, hc36, h]))) rfl rfl (by rintro p H' ⟨ae, hbad, rfl, Wb, Eb, xb, Fb⟩; change _ ∧ _; exact ⟨rfl, ae, by simp [pArm, pmD, hres1, hres35, hg3, hc18, hc36, hbad], rfl, Wb, Eb, xb, FF35.trans WS Fb⟩) ?_; rintro _ H41 ⟨v41, st41, x41, hres41, rfl, R41, F41⟩
    obtain ⟨nv41, hA41, hN41⟩ := R41.at_
    have W41 := R41.w; have E41 := R41.e; have FF41 := FF35.trans WS F41; have hal41 := R41.al
    refine o_asP ?_
    refine o_nilP ?_
    refine w_srP ?_
    refine o_mvP ?_
    refine o_clP rfl rfl tS rfl (want_ct ho W0 ho81 tx ho69 src sv T tv rb hS hT hO [60, 45, 61] _ W41 E41 G st41 x41 R41 (by intro h; exact hm (by simp [pArm, pmD, hres1, hres35, hres41, hg3, hc18, hc36, h]))) rfl rfl (by rintro p H' ⟨ae, hbad, rfl, Wb, Eb, xb, Fb⟩; change _ ∧ _; exact ⟨rfl, ae, by simp [pArm, pmD, hres1, hres35, hres41, hg3, hc18, hc36, hbad], rfl, Wb, Eb, xb, FF41.trans WS Fb⟩) ?_; rintro _ H42 ⟨v42, st42, x42, hres42, rfl, R42, F42⟩
    obtain ⟨nv42, hA42, hN42⟩ := R42.at_
    have W42 := R42.w; have E42 := R42.e; have FF42 := FF41.trans WS F42; have hal42 := R42.al
    refine o_nilP ?_
    refine w_srP ?_
    refine o_mvP ?_
    refine o_clP rfl rfl tS rfl ((ih f (by omega)).expr _ W42 E42 G st42 x42 R42 (by intro h; exact hm (by simp [pArm, pmD, hres1, hres35, hres41, hres42, hg3, hc18, hc36, h]))) rfl rfl (by rintro p H' ⟨ae, hbad, rfl, Wb, Eb, xb, Fb⟩; change _ ∧ _; exact ⟨rfl, ae, by simp [pArm, pmD, hres1, hres35, hres41, hres42, hg3, hc18, hc36, hbad], rfl, Wb, Eb, xb, FF42.trans WS Fb⟩) ?_; rintro _ H43 ⟨v43, st43, x43, hres43, rfl, R43, F43⟩
    obtain ⟨nv43, hA43, hN43⟩ := R43.at_
    have W43 := R43.w; have E43 := R43.e; have FF43 := FF42.trans WS F43; have hal43 := R43.al
    refine o_asP ?_
    refine o_nilP ?_
    refine w_srP ?_
    refine o_mvP ?_
    refine o_mvP ?_
    refine o_mvP ?_
    refine o_mvP ?_
    refine o_mvP ?_
    refine o_clP rfl rfl tS rfl ((ih f (by omega)).block _ W43 E43 G st43 x43 R43 (by intro h; exact hm (by simp [pArm, pmD, hres1, hres35, hres41, hres42, hres43, hg3, hc18, hc36, h]))) rfl rfl (by rintro p H' ⟨ae, hbad, rfl, Wb, Eb, xb, Fb⟩; change _ ∧ _; exact ⟨rfl, ae, by simp [pArm, pmD, hres1, hres35, hres41, hres42, hres43, hg3, hc18, hc36, hbad], rfl, Wb, Eb, xb, FF43.trans WS Fb⟩) ?_; rintro _ H44 ⟨v44, st44, x44, hres44, rfl, R44, F44⟩
    obtain ⟨nv44, hA44, hN44⟩ := R44.at_
    have W44 := R44.w; have E44 := R44.e; have FF44 := FF43.trans WS F44; have hal44 := R44.al
    refine o_stepP ?_
    refine o_nw W44 (a_build3 Try.underlying39 Ty.csz3 Ty.zero3 tE tE tE) rfl rfl rfl (by simp) ?_; intro H45 n45 W45 X45 A45
    have E45 := E44.trans X45
    have hA44 := X45.keep _ _ hA44
    have L45 : SI H45 [v41, v43, v44] (freshSl (H44.n) 3 3) := si_fresh (ks := [v41, v43, v44]) A45 (by simp)
    refine o_nil ?_
    refine o_stepP ?_
    refine o_cl rfl rfl tS rfl (node_fin ho W0 W45 E45 src sv T tv rb G st44 x44 hS hT hO (R44.ext X45) (44) (v1) (0) [] [v41, v43, v44] _ (L45) (node_ok (k := 44) (a := v1) (n := 0) (nm := []) (ks := [v41, v43, v44]) (st := st44) (by intro h; exact hm (by simp [pArm, pmD, hres1, hres35, hres41, hres42, hres43, hres44, hg3, hc18, hc36, h]))).1 (node_ok (k := 44) (a := v1) (n := 0) (nm := []) (ks := [v41, v43, v44]) (st := st44) (by intro h; exact hm (by simp [pArm, pmD, hres1, hres35, hres41, hres42, hres43, hres44, hg3, hc18, hc36, h]))).2) rfl rfl ?_; rintro _ H46 ⟨v46, st46, x46, hres46, rfl, R46, F46⟩
    obtain ⟨nv46, hA46, hN46⟩ := R46.at_
    have W46 := R46.w; have E46 := R46.e; have FF46 := (FF44.trans WS (Fr2.ofExt X45)).trans WS F46; have hal46 := R46.al
    refine o_nil ?_
    refine o_asP ?_
    refine o_nilP ?_
    refine w_ret ?_
    change _ ∧ _
    refine ⟨rfl, .int .i64 (v46), (show resultA Try.prog [.tmp 2] _ = _ from tR), ?_⟩
    try dsimp only
    exact ⟨_, st46, x46, by simp [pArm, pmD, hres1, hres35, hres41, hres42, hres43, hres44, hres46, hg3, hc18, hc36], rfl, R46, FF46⟩
end Go.Proofs.Ytehmhhlhlipbnaa.Vs
