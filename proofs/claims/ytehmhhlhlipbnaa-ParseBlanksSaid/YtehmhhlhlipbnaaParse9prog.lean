/-
 The rest of the reader's functions.
-/
import Derived.Test.YtehmhhlhlipbnaaParse8
set_option autoImplicit false
set_option linter.unusedVariables false
set_option linter.unusedSimpArgs false
namespace Go.Proofs.Ytehmhhlhlipbnaa.Vs
open Go.VI Go.Proofs
variable {orc : CallF}
set_option maxRecDepth 100000 in
set_option maxHeartbeats 4000000 in
theorem prog_fin (ho : NoOrcBut [7, 21, 69, 81] orc) {H0 HS : AH} (W0 : Wf H0) (WS : Wf HS) (ES : Ext H0 HS) (ho81 : ∃ sg, ∀ H, orc 81 [] H = some (.ret sg, H)) (tx : Nat → List UInt8) (ho69 : ∀ k : Nat, k < 67 → ∀ H, orc 69 [.int .i64 (k : Int)] H = some (.ret (.str (tx k)), H)) (src : List UInt8) (sv : AV) (T : List TK) (tv : AV) (rb : Nat) (G : LK → Prop) (st : PS) (x : LK) (hS : SB H0 5 src sv) (hT : TS H0 T tv) (hO : TOk src T) (hR : RS H0 sv tv T.length rb G HS st x) (f : Nat) (ih : ∀ g, g ≤ f → IH orc H0 sv tv rb tx src T g) (a : Int) (hm : pProg tx src T (f + 1) a st ≠ none) : FinP Try.prog orc 102 [.ptr (.mt (rb)) (0), .int .i64 (a)] HS (fun r H' => OkR H0 sv tv T.length rb G HS x (pProg tx src T (f + 1) a st) (AV.int .i64) r H') (fun r H' => BadR H0 rb HS x (pProg tx src T (f + 1) a st) r H') := by
 have E0 := ES
 obtain ⟨nv, hA, hN⟩ := hR.at_; have hr0 := hR.r0; have hTl := hO.len; have hal := hR.al; have hSb := hS.bound; have hrbl := WS.lt hA
 refine fin_ofP Try.func102 rfl (by rw [Try.ntmps102]; simp) (ho _ rfl _ _) ?_
 rw [Try.ntmps102]
 refine w_srP ?_
 refine o_asP ?_
 refine o_nilP ?_
 refine w_srP ?_
 refine o_asP ?_
 refine o_nilP ?_
 refine w_seq ?_
 refine w_srP ?_
 refine o_mvP ?_
 refine o_stepP ?_
 refine o_cl rfl rfl tS rfl (knd_fin ho W0 WS E0 src sv T tv rb G st x hS hT hO hR) rfl rfl ?_; rintro _ H1 ⟨rfl, X1⟩
 have W1 := X1.wf; have E1 := E0.trans X1
 have hA := X1.keep _ _ hA
 have n1 := X1.n
 refine o_nil ?_
 refine o_rdP (r_eq (a := knF T st.a) (b := 1) tE tE) rfl rfl ?_
 refine o_nilP ?_
 refine w_cond tE (fun hB2 => ?_) (fun hB2 => ?_)
 ·have hc2 := dec_t hB2
  refine w_regionP ?_
  refine o_mvP ?_
  refine o_clP rfl rfl tS rfl (name_ct ho W0 ho81 tx ho69 src sv T tv rb hS hT hO _ W1 E1 G st x (hR.ext X1) (by intro h; exact hm (by simp [pProg, pmD, hc2, mOpt, h]))) rfl rfl (by rintro p H' ⟨ae, hbad, rfl, Wb, Eb, xb, Fb⟩; change _ ∧ _; exact ⟨rfl, ae, by simp [pProg, pmD, hc2, mOpt, hbad], rfl, Wb, Eb, xb, ((Fr2.refl WS).trans WS (Fr2.ofExt X1)).trans WS Fb⟩) ?_; rintro _ H3 ⟨v3, st3, x3, hres3, rfl, R3, F3⟩
  obtain ⟨nv3, hA3, hN3⟩ := R3.at_
  have W3 := R3.w; have E3 := R3.e; have FF3 := ((Fr2.refl WS).trans WS (Fr2.ofExt X1)).trans WS F3; have hal3 := R3.al
  refine o_asP ?_
  refine o_nilP ?_
  refine w_srP ?_
  refine o_mvP ?_
  refine o_clP rfl rfl tS rfl (want_ct ho W0 ho81 tx ho69 src sv T tv rb hS hT hO [40] _ W3 E3 G st3 x3 R3 (by intro h; exact hm (by simp [pProg, pmD, hres3, hc2, mOpt, h]))) rfl rfl (by rintro p H' ⟨ae, hbad, rfl, Wb, Eb, xb, Fb⟩; change _ ∧ _; exact ⟨rfl, ae, by simp [pProg, pmD, hres3, hc2, mOpt, hbad], rfl, Wb, Eb, xb, FF3.trans WS Fb⟩) ?_; rintro _ H4 ⟨v4, st4, x4, hres4, rfl, R4, F4⟩
  obtain ⟨nv4, hA4, hN4⟩ := R4.at_
  have W4 := R4.w; have E4 := R4.e; have FF4 := FF3.trans WS F4; have hal4 := R4.al
  refine o_nilP ?_
  refine w_srP ?_
  refine o_asP ?_
  refine o_nilP ?_
  refine w_seq ?_
  refine w_block ?_
  refine w_loop (fun m s => ∃ (e : Env) (H : AH) (stL : PS) (xL : LK) (nvL : AV) (ksL : List Int) (kvL : AV) (yL : LK), s = ⟨e, H, []⟩ ∧ e.val 0 = .ptr (.mt (rb)) (0) ∧ e.val 1 = .int .i64 (a) ∧ e.val 4 = .int .i64 (0) ∧ e.val 5 = .str (v3) ∧ e.val 6 = kvL ∧ Wf H ∧ Ext H0 H ∧ H.at (rb) = some (.row [sv, tv, .int .i64 (((stL.a : Nat) : Int)), nvL] 58 false none) ∧ (m ≤ f) ∧ (pProg tx src T (f + 1) a st = pProgGo tx src T m a v3 ksL stL) ∧ (KQ H0 HS.n sv tv T.length rb G H stL xL ksL kvL yL) ∧ (Fr2 rb HS x H xL)) (f) ⟨_, H4, st4, x4, _, [], .nils, (0, none), rfl, tV, tV, tV, tV, tV, W4, E4, hA4, (Nat.le_refl _), (by simp [pProg, pmD, hres3, hres4, hc2, mOpt]), (KQ.start R4), FF4⟩ ?_
  intro m s hi
  obtain ⟨e, H5, stL, xL, nvL, ksL, kvL, yL, rfl, vt0, vt1, vt4, vt5, vt6, W5, E5, hA4, hmle, heq, Q, F⟩ := hi
  have vA := And.intro vt0 (And.intro vt1 (And.intro vt4 (And.intro vt5 vt6)))
  have l5_0 := W5.lt hA4
  have hmL := hm; rw [heq] at hmL
  obtain ⟨fu, rfl⟩ : ∃ q, m = q + 1 := by cases m with | zero => exact absurd rfl hmL | succ q => exact ⟨q, rfl⟩
  have hlim : ksL.length < 1000000000 := by have h := hmL; simp only [pProgGo] at h; exact lim_ok h
  have halL := Q.r.al
  refine w_seq ?_
  refine w_srP ?_
  refine o_mvP ?_
  refine o_stepP ?_
  refine o_cl rfl rfl tS rfl (got_fin ho W0 W5 E5 ho81 tx ho69 src sv T tv rb (GK G ksL yL) stL xL hS hT hO Q.r [41]) rfl rfl ?_; rintro _ H6 ⟨v6, st6, x6, hres6, rfl, R6, F6⟩
  obtain ⟨nv6, hA6, hN6⟩ := R6.at_
  have W6 := R6.w; have E6 := R6.e; have FF6 := F.trans WS F6; have hal6 := R6.al
  have Q6 := KQ.fr Q R6 F6
  refine o_nil ?_
  refine o_rdP (r_not tE) rfl rfl ?_
  refine o_nilP ?_
  refine w_cond tE (fun hB7 => ?_) (fun hB7 => ?_)
  ·have hc7 := (not_t hB7)
   refine w_skip ?_
   refine w_block ?_
   refine w_seq ?_
   refine w_srP ?_
   refine o_mvP ?_
   refine o_rdP (r_len (n := ksL.length) Try.underlying39 tE Q6.lenOf) rfl rfl ?_
   refine o_rdP (r_gt (a := ((ksL.length : Nat) : Int)) (b := 0) tE tE) rfl rfl ?_
   refine o_nilP ?_
   refine w_cond tE (fun hB8 => ?_) (fun hB8 => ?_)
   ·have hc8 := (show 0 < ksL.length by have h := dec_t hB8; omega)
    refine w_regionP ?_
    refine o_mvP ?_
    refine o_clP rfl rfl tS rfl (want_ct ho W0 ho81 tx ho69 src sv T tv rb hS hT hO [44] _ W6 E6 (GK G ksL yL) st6 x6 R6 (by intro h; exact hmL (by simp [pProgGo, pmD, hres6, hc7, hc8, mOpt, mLim, hlim, h]))) rfl rfl (by rintro p H' ⟨ae, hbad, rfl, Wb, Eb, xb, Fb⟩; change _ ∧ _; exact ⟨rfl, ae, by rw [heq]; simp [pProgGo, pmD, hres6, hc7, hc8, mOpt, mLim, hlim, hbad], rfl, Wb, Eb, xb, FF6.trans WS Fb⟩) ?_; rintro _ H9 ⟨v9, st9, x9, hres9, rfl, R9, F9⟩
    obtain ⟨nv9, hA9, hN9⟩ := R9.at_
    have W9 := R9.w; have E9 := R9.e; have FF9 := FF6.trans WS F9; have hal9 := R9.al
    have Q9 := KQ.fr Q6 R9 F9
    refine o_nilP ?_
    refine w_srP ?_
    refine o_mvP ?_
    refine o_stepP ?_
    refine o_cl rfl rfl tS rfl (place_fin ho W0 W9 E9 src sv T tv rb (GK G ksL yL) st9 x9 hS hT hO R9) rfl rfl ?_; rintro _ H10 ⟨rfl, X10⟩
    have W10 := X10.wf; have E10 := E9.trans X10
    have hA9 := X10.keep _ _ hA9
    have n10 := X10.n
    refine o_nil ?_
    refine o_asP ?_
    refine o_nilP ?_
    refine w_srP ?_
    refine o_mvP ?_
    refine o_clP rfl rfl tS rfl (name_ct ho W0 ho81 tx ho69 src sv T tv rb hS hT hO _ W10 E10 (GK G ksL yL) st9 x9 (R9.ext X10) (by intro h; exact hmL (by simp [pProgGo, pmD, hres6, hres9, hc7, hc8, mOpt, mLim, hlim, h]))) rfl rfl (by rintro p H' ⟨ae, hbad, rfl, Wb, Eb, xb, Fb⟩; change _ ∧ _; exact ⟨rfl, ae, by rw [heq]; simp [pProgGo, pmD, hres6, hres9, hc7, hc8, mOpt, mLim, hlim, hbad], rfl, Wb, Eb, xb, (FF9.trans WS (Fr2.ofExt X10)).trans WS Fb⟩) ?_; rintro _ H11 ⟨v11, st11, x11, hres11, rfl, R11, F11⟩
    obtain ⟨nv11, hA11, hN11⟩ := R11.at_
    have W11 := R11.w; have E11 := R11.e; have FF11 := (FF9.trans WS (Fr2.ofExt X10)).trans WS F11; have hal11 := R11.al
    have Q11 := KQ.fr (Q9.ext X10) R11 F11
    refine o_asP ?_
    refine o_nilP ?_
    refine w_srP ?_
    refine o_mvP ?_
    refine o_clP rfl rfl tS rfl (want_ct ho W0 ho81 tx ho69 src sv T tv rb hS hT hO [58] _ W11 E11 (GK G ksL yL) st11 x11 R11 (by intro h; exact hmL (by simp [pProgGo, pmD, hres6, hres9, hres11, hc7, hc8, mOpt, mLim, hlim, h]))) rfl rfl (by rintro p H' ⟨ae, hbad, rfl, Wb, Eb, xb, Fb⟩; change _ ∧ _; exact ⟨rfl, ae, by rw [heq]; simp [pProgGo, pmD, hres6, hres9, hres11, hc7, hc8, mOpt, mLim, hlim, hbad], rfl, Wb, Eb, xb, FF11.trans WS Fb⟩) ?_; rintro _ H12 ⟨v12, st12, x12, hres12, rfl, R12, F12⟩
    obtain ⟨nv12, hA12, hN12⟩ := R12.at_
    have W12 := R12.w; have E12 := R12.e; have FF12 := FF11.trans WS F12; have hal12 := R12.al
    have Q12 := KQ.fr Q11 R12 F12
    refine o_nilP ?_
    refine w_regionP ?_
    refine o_mvP ?_
    refine o_mvP ?_
    refine o_mvP ?_
    refine o_mvP ?_
    refine o_mvP ?_
    refine o_clP rfl rfl tS rfl ((ih fu (by omega)).typ _ W12 E12 (GK G ksL yL) st12 x12 R12 (by intro h; exact hmL (by simp [pProgGo, pmD, hres6, hres9, hres11, hres12, hc7, hc8, mOpt, mLim, hlim, h]))) rfl rfl (by rintro p H' ⟨ae, hbad, rfl, Wb, Eb, xb, Fb⟩; change _ ∧ _; exact ⟨rfl, ae, by rw [heq]; simp [pProgGo, pmD, hres6, hres9, hres11, hres12, hc7, hc8, mOpt, mLim, hlim, hbad], rfl, Wb, Eb, xb, FF12.trans WS Fb⟩) ?_; rintro _ H13 ⟨v13, st13, x13, hres13, rfl, R13, F13⟩
    obtain ⟨nv13, hA13, hN13⟩ := R13.at_
    have W13 := R13.w; have E13 := R13.e; have FF13 := FF12.trans WS F13; have hal13 := R13.al
    have Q13 := KQ.fr Q12 R13 F13
    refine o_stepP ?_
    refine o_nw W13 (a_build1 Try.underlying39 Ty.csz3 Ty.zero3 rfl tE rfl (by decide)) rfl rfl rfl (by simp) ?_; intro H14 n14 W14 X14 A14
    have E14 := E13.trans X14
    have hA13 := X14.keep _ _ hA13
    have L14 : SI H14 [v13] (freshSl (H13.n) 1 1) := si_fresh (ks := [v13]) A14 (by simp)
    refine o_nil ?_
    refine o_stepP ?_
    refine o_cl rfl rfl tS rfl (node_fin ho W0 W14 E14 src sv T tv rb (GK G ksL yL) st13 x13 hS hT hO (R13.ext X14) (42) (plF src T st9.a) (0) v11 [v13] _ (L14) (node_ok (k := 42) (a := plF src T st9.a) (n := 0) (nm := v11) (ks := [v13]) (st := st13) (by intro h; exact hmL (by simp [pProgGo, pmD, hres6, hres9, hres11, hres12, hres13, hc7, hc8, mOpt, mLim, hlim, h]))).1 (node_ok (k := 42) (a := plF src T st9.a) (n := 0) (nm := v11) (ks := [v13]) (st := st13) (by intro h; exact hmL (by simp [pProgGo, pmD, hres6, hres9, hres11, hres12, hres13, hc7, hc8, mOpt, mLim, hlim, h]))).2) rfl rfl ?_; rintro _ H15 ⟨v15, st15, x15, hres15, rfl, R15, F15⟩
    obtain ⟨nv15, hA15, hN15⟩ := R15.at_
    have W15 := R15.w; have E15 := R15.e; have FF15 := (FF13.trans WS (Fr2.ofExt X14)).trans WS F15; have hal15 := R15.al
    have Q15 := KQ.fr (Q13.ext X14) R15 F15
    refine o_nil ?_
    refine o_stepP ?_
    refine o_nw W15 (a_build1 Try.underlying39 Ty.csz3 Ty.zero3 rfl tE rfl (by decide)) rfl rfl rfl (by simp) ?_; intro H16 n16 W16 X16 A16
    have E16 := E15.trans X16
    have hA15 := X16.keep _ _ hA15
    refine o_nil ?_
    refine o_stepP ?_
    refine o_apK (n0 := HS.n) (vs := [v15]) W0 W16 (Q15.ext X16) (FF15.trans WS (Fr2.ofExt X16)).n ES.n Try.underlying39 Try.underlying39 rfl Ty.csz3 Ty.byt3 Ty.zero3 rfl tE tE (src_fresh (n := 1) A16 rfl) (by simp) (by first | exact Nat.le_of_ble_eq_true rfl | (simp only [List.length_append, List.length_singleton]; omega)) rfl rfl ?_; intro kv17 H17 y17 Q17 A17
    obtain ⟨nv17, hA17, hN17⟩ := Q17.r.at_
    have W17 := Q17.r.w; have E17 := Q17.r.e; have FF17 := (FF15.trans WS (Fr2.ofExt X16)).app WS (Q15.ext X16) A17
    refine o_nil ?_
    refine o_asP ?_
    refine o_nilP ?_
    exact ⟨fu, (by omega), _, H17, st15, x15, nv17, (ksL ++ [v15]), kv17, y17, rfl, tV, tV, tV, tV, tV, W17, E17, hA17, (by omega), (heq.trans (by simp [pProgGo, pmD, hres6, hres9, hres11, hres12, hres13, hres15, hc7, hc8, mOpt, mLim, hlim])), Q17, FF17⟩
   ·have hc8 := (show ¬ 0 < ksL.length by have h := dec_f hB8; omega)
    refine w_skip ?_
    refine w_srP ?_
    refine o_mvP ?_
    refine o_stepP ?_
    refine o_cl rfl rfl tS rfl (place_fin ho W0 W6 E6 src sv T tv rb (GK G ksL yL) st6 x6 hS hT hO R6) rfl rfl ?_; rintro _ H18 ⟨rfl, X18⟩
    have W18 := X18.wf; have E18 := E6.trans X18
    have hA6 := X18.keep _ _ hA6
    have n18 := X18.n
    refine o_nil ?_
    refine o_asP ?_
    refine o_nilP ?_
    refine w_srP ?_
    refine o_mvP ?_
    refine o_clP rfl rfl tS rfl (name_ct ho W0 ho81 tx ho69 src sv T tv rb hS hT hO _ W18 E18 (GK G ksL yL) st6 x6 (R6.ext X18) (by intro h; exact hmL (by simp [pProgGo, pmD, hres6, hc7, hc8, mOpt, mLim, hlim, h]))) rfl rfl (by rintro p H' ⟨ae, hbad, rfl, Wb, Eb, xb, Fb⟩; change _ ∧ _; exact ⟨rfl, ae, by rw [heq]; simp [pProgGo, pmD, hres6, hc7, hc8, mOpt, mLim, hlim, hbad], rfl, Wb, Eb, xb, (FF6.trans WS (Fr2.ofExt X18)).trans WS Fb⟩) ?_; rintro _ H19 ⟨v19, st19, x19, hres19, rfl, R19, F19⟩
    obtain ⟨nv19, hA19, hN19⟩ := R19.at_
    have W19 := R19.w; have E19 := R19.e; have FF19 := (FF6.trans WS (Fr2.ofExt X18)).trans WS F19; have hal19 := R19.al
    have Q19 := KQ.fr (Q6.ext X18) R19 F19
    refine o_asP ?_
    refine o_nilP ?_
    refine w_srP ?_
    refine o_mvP ?_
    refine o_clP rfl rfl tS rfl (want_ct ho W0 ho81 tx ho69 src sv T tv rb hS hT hO [58] _ W19 E19 (GK G ksL yL) st19 x19 R19 (by intro h; exact hmL (by simp [pProgGo, pmD, hres6, hres19, hc7, hc8, mOpt, mLim, hlim, h]))) rfl rfl (by rintro p H' ⟨ae, hbad, rfl, Wb, Eb, xb, Fb⟩; change _ ∧ _; exact ⟨rfl, ae, by rw [heq]; simp [pProgGo, pmD, hres6, hres19, hc7, hc8, mOpt, mLim, hlim, hbad], rfl, Wb, Eb, xb, FF19.trans WS Fb⟩) ?_; rintro _ H20 ⟨v20, st20, x20, hres20, rfl, R20, F20⟩
    obtain ⟨nv20, hA20, hN20⟩ := R20.at_
    have W20 := R20.w; have E20 := R20.e; have FF20 := FF19.trans WS F20; have hal20 := R20.al
    have Q20 := KQ.fr Q19 R20 F20
    refine o_nilP ?_
    refine w_regionP ?_
    refine o_mvP ?_
    refine o_mvP ?_
    refine o_mvP ?_
    refine o_mvP ?_
    refine o_mvP ?_
    refine o_clP rfl rfl tS rfl ((ih fu (by omega)).typ _ W20 E20 (GK G ksL yL) st20 x20 R20 (by intro h; exact hmL (by simp [pProgGo, pmD, hres6, hres19, hres20, hc7, hc8, mOpt, mLim, hlim, h]))) rfl rfl (by rintro p H' ⟨ae, hbad, rfl, Wb, Eb, xb, Fb⟩; change _ ∧ _; exact ⟨rfl, ae, by rw [heq]; simp [pProgGo, pmD, hres6, hres19, hres20, hc7, hc8, mOpt, mLim, hlim, hbad], rfl, Wb, Eb, xb, FF20.trans WS Fb⟩) ?_; rintro _ H21 ⟨v21, st21, x21, hres21, rfl, R21, F21⟩
    obtain ⟨nv21, hA21, hN21⟩ := R21.at_
    have W21 := R21.w; have E21 := R21.e; have FF21 := FF20.trans WS F21; have hal21 := R21.al
    have Q21 := KQ.fr Q20 R21 F21
    refine o_stepP ?_
    refine o_nw W21 (a_build1 Try.underlying39 Ty.csz3 Ty.zero3 rfl tE rfl (by decide)) rfl rfl rfl (by simp) ?_; intro H22 n22 W22 X22 A22
    have E22 := E21.trans X22
    have hA21 := X22.keep _ _ hA21
    have L22 : SI H22 [v21] (freshSl (H21.n) 1 1) := si_fresh (ks := [v21]) A22 (by simp)
    refine o_nil ?_
    refine o_stepP ?_
    refine o_cl rfl rfl tS rfl (node_fin ho W0 W22 E22 src sv T tv rb (GK G ksL yL) st21 x21 hS hT hO (R21.ext X22) (42) (plF src T st6.a) (0) v19 [v21] _ (L22) (node_ok (k := 42) (a := plF src T st6.a) (n := 0) (nm := v19) (ks := [v21]) (st := st21) (by intro h; exact hmL (by simp [pProgGo, pmD, hres6, hres19, hres20, hres21, hc7, hc8, mOpt, mLim, hlim, h]))).1 (node_ok (k := 42) (a := plF src T st6.a) (n := 0) (nm := v19) (ks := [v21]) (st := st21) (by intro h; exact hmL (by simp [pProgGo, pmD, hres6, hres19, hres20, hres21, hc7, hc8, mOpt, mLim, hlim, h]))).2) rfl rfl ?_; rintro _ H23 ⟨v23, st23, x23, hres23, rfl, R23, F23⟩
    obtain ⟨nv23, hA23, hN23⟩ := R23.at_
    have W23 := R23.w; have E23 := R23.e; have FF23 := (FF21.trans WS (Fr2.ofExt X22)).trans WS F23; have hal23 := R23.al
    have Q23 := KQ.fr (Q21.ext X22) R23 F23
    refine o_nil ?_
    refine o_stepP ?_
    refine o_nw W23 (a_build1 Try.underlying39 Ty.csz3 Ty.zero3 rfl tE rfl (by decide)) rfl rfl rfl (by simp) ?_; intro H24 n24 W24 X24 A24
    have E24 := E23.trans X24
    have hA23 := X24.keep _ _ hA23
    refine o_nil ?_
    refine o_stepP ?_
    refine o_apK (n0 := HS.n) (vs := [v23]) W0 W24 (Q23.ext X24) (FF23.trans WS (Fr2.ofExt X24)).n ES.n Try.underlying39 Try.underlying39 rfl Ty.csz3 Ty.byt3 Ty.zero3 rfl tE tE (src_fresh (n := 1) A24 rfl) (by simp) (by first | exact Nat.le_of_ble_eq_true rfl | (simp only [List.length_append, List.length_singleton]; omega)) rfl rfl ?_; intro kv25 H25 y25 Q25 A25
    obtain ⟨nv25, hA25, hN25⟩ := Q25.r.at_
    have W25 := Q25.r.w; have E25 := Q25.r.e; have FF25 := (FF23.trans WS (Fr2.ofExt X24)).app WS (Q23.ext X24) A25
    refine o_nil ?_
    refine o_asP ?_
    refine o_nilP ?_
    exact ⟨fu, (by omega), _, H25, st23, x23, nv25, (ksL ++ [v23]), kv25, y25, rfl, tV, tV, tV, tV, tV, W25, E25, hA25, (by omega), (heq.trans (by simp [pProgGo, pmD, hres6, hres19, hres20, hres21, hres23, hc7, hc8, mOpt, mLim, hlim])), Q25, FF25⟩
  ·have hc7 := (not_f hB7)
   first | refine w_exit (blk_exit ?_) | refine w_exit (show (0 = 0 → _) ∧ (0 ≠ 0 → _) from ⟨fun _ => ?_, fun c => absurd rfl c⟩)
   refine w_srP ?_
   refine o_mvP ?_
   refine o_mvP ?_
   refine o_mvP ?_
   refine o_mvP ?_
   have QQ26 := Q6
   refine o_clP rfl rfl tS rfl ((ih fu (by omega)).res _ W6 E6 G st6 x6 yL (20) (a) v3 ksL (kvL) (QQ26.mono ES.n) (by intro h; exact hmL (by simp [pProgGo, pmD, hres6, hc7, mOpt, mLim, hlim, h]))) rfl rfl (by rintro p H' ⟨ae, hbad, rfl, Wb, Eb, xb, ksb, yb, Fb⟩; change _ ∧ _; exact ⟨rfl, ae, by rw [heq]; simp [pProgGo, pmD, hres6, hc7, mOpt, mLim, hlim, hbad], rfl, Wb, Eb, xb, Fr2.fr3 FF6 WS QQ26 Fb⟩) ?_; rintro _ H26 ⟨v26, st26, x26, ks26, y26, hres26, rfl, R26, F326⟩
   have FQ26 := Fr2.fr3 FF6 WS QQ26 F326
   obtain ⟨nv26, hA26, hN26⟩ := R26.at_
   have W26 := R26.w; have E26 := R26.e; have hal26 := R26.al
   refine o_asP ?_
   refine o_nilP ?_
   refine w_ret ?_
   change _ ∧ _
   refine ⟨rfl, .int .i64 (v26), (show resultA Try.prog [.tmp 4] _ = _ from tR), ?_⟩
   try dsimp only
   exact ⟨_, st26, x26, by rw [heq]; simp [pProgGo, pmD, hres6, hres26, hc7, mOpt, mLim, hlim], rfl, R26, FQ26⟩
 ·have hc2 := dec_f hB2
  refine w_skip ?_
  refine w_srP ?_
  refine o_mvP ?_
  refine o_clP rfl rfl tS rfl (want_ct ho W0 ho81 tx ho69 src sv T tv rb hS hT hO [40] _ W1 E1 G st x (hR.ext X1) (by intro h; exact hm (by simp [pProg, pmD, hc2, mOpt, h]))) rfl rfl (by rintro p H' ⟨ae, hbad, rfl, Wb, Eb, xb, Fb⟩; change _ ∧ _; exact ⟨rfl, ae, by simp [pProg, pmD, hc2, mOpt, hbad], rfl, Wb, Eb, xb, ((Fr2.refl WS).trans WS (Fr2.ofExt X1)).trans WS Fb⟩) ?_; rintro _ H27 ⟨v27, st27, x27, hres27, rfl, R27, F27⟩
  obtain ⟨nv27, hA27, hN27⟩ := R27.at_
  have W27 := R27.w; have E27 := R27.e; have FF27 := ((Fr2.refl WS).trans WS (Fr2.ofExt X1)).trans WS F27; have hal27 := R27.al
  refine o_nilP ?_
  refine w_srP ?_
  refine o_asP ?_
  refine o_nilP ?_
  refine w_seq ?_
  refine w_block ?_
  refine w_loop (fun m s => ∃ (e : Env) (H : AH) (stL : PS) (xL : LK) (nvL : AV) (ksL : List Int) (kvL : AV) (yL : LK), s = ⟨e, H, []⟩ ∧ e.val 0 = .ptr (.mt (rb)) (0) ∧ e.val 1 = .int .i64 (a) ∧ e.val 4 = .int .i64 (0) ∧ e.val 5 = .str ([]) ∧ e.val 6 = kvL ∧ Wf H ∧ Ext H0 H ∧ H.at (rb) = some (.row [sv, tv, .int .i64 (((stL.a : Nat) : Int)), nvL] 58 false none) ∧ (m ≤ f) ∧ (pProg tx src T (f + 1) a st = pProgGo tx src T m a [] ksL stL) ∧ (KQ H0 HS.n sv tv T.length rb G H stL xL ksL kvL yL) ∧ (Fr2 rb HS x H xL)) (f) ⟨_, H27, st27, x27, _, [], .nils, (0, none), rfl, tV, tV, tV, tV, tV, W27, E27, hA27, (Nat.le_refl _), (by simp [pProg, pmD, hres27, hc2, mOpt]), (KQ.start R27), FF27⟩ ?_
  intro m s hi
  obtain ⟨e, H28, stL, xL, nvL, ksL, kvL, yL, rfl, vt0, vt1, vt4, vt5, vt6, W28, E28, hA27, hmle, heq, Q, F⟩ := hi
  have vA := And.intro vt0 (And.intro vt1 (And.intro vt4 (And.intro vt5 vt6)))
  have l28_0 := W28.lt hA27
  have hmL := hm; rw [heq] at hmL
  obtain ⟨fu, rfl⟩ : ∃ q, m = q + 1 := by cases m with | zero => exact absurd rfl hmL | succ q => exact ⟨q, rfl⟩
  have hlim : ksL.length < 1000000000 := by have h := hmL; simp only [pProgGo] at h; exact lim_ok h
  have halL := Q.r.al
  refine w_seq ?_
  refine w_srP ?_
  refine o_mvP ?_
  refine o_stepP ?_
  refine o_cl rfl rfl tS rfl (got_fin ho W0 W28 E28 ho81 tx ho69 src sv T tv rb (GK G ksL yL) stL xL hS hT hO Q.r [41]) rfl rfl ?_; rintro _ H29 ⟨v29, st29, x29, hres29, rfl, R29, F29⟩
  obtain ⟨nv29, hA29, hN29⟩ := R29.at_
  have W29 := R29.w; have E29 := R29.e; have FF29 := F.trans WS F29; have hal29 := R29.al
  have Q29 := KQ.fr Q R29 F29
  refine o_nil ?_
  refine o_rdP (r_not tE) rfl rfl ?_
  refine o_nilP ?_
  refine w_cond tE (fun hB30 => ?_) (fun hB30 => ?_)
  ·have hc30 := (not_t hB30)
   refine w_skip ?_
   refine w_block ?_
   refine w_seq ?_
   refine w_srP ?_
   refine o_mvP ?_
   refine o_rdP (r_len (n := ksL.length) Try.underlying39 tE Q29.lenOf) rfl rfl ?_
   refine o_rdP (r_gt (a := ((ksL.length : Nat) : Int)) (b := 0) tE tE) rfl rfl ?_
   refine o_nilP ?_
   refine w_cond tE (fun hB31 => ?_) (fun hB31 => ?_)
   ·have hc31 := (show 0 < ksL.length by have h := dec_t hB31; omega)
    refine w_regionP ?_
    refine o_mvP ?_
    refine o_clP rfl rfl tS rfl (want_ct ho W0 ho81 tx ho69 src sv T tv rb hS hT hO [44] _ W29 E29 (GK G ksL yL) st29 x29 R29 (by intro h; exact hmL (by simp [pProgGo, pmD, hres29, hc30, hc31, mOpt, mLim, hlim, h]))) rfl rfl (by rintro p H' ⟨ae, hbad, rfl, Wb, Eb, xb, Fb⟩; change _ ∧ _; exact ⟨rfl, ae, by rw [heq]; simp [pProgGo, pmD, hres29, hc30, hc31, mOpt, mLim, hlim, hbad], rfl, Wb, Eb, xb, FF29.trans WS Fb⟩) ?_; rintro _ H32 ⟨v32, st32, x32, hres32, rfl, R32, F32⟩
    obtain ⟨nv32, hA32, hN32⟩ := R32.at_
    have W32 := R32.w; have E32 := R32.e; have FF32 := FF29.trans WS F32; have hal32 := R32.al
    have Q32 := KQ.fr Q29 R32 F32
    refine o_nilP ?_
    refine w_srP ?_
    refine o_mvP ?_
    refine o_stepP ?_
    refine o_cl rfl rfl tS rfl (place_fin ho W0 W32 E32 src sv T tv rb (GK G ksL yL) st32 x32 hS hT hO R32) rfl rfl ?_; rintro _ H33 ⟨rfl, X33⟩
    have W33 := X33.wf; have E33 := E32.trans X33
    have hA32 := X33.keep _ _ hA32
    have n33 := X33.n
    refine o_nil ?_
    refine o_asP ?_
    refine o_nilP ?_
    refine w_srP ?_
    refine o_mvP ?_
    refine o_clP rfl rfl tS rfl (name_ct ho W0 ho81 tx ho69 src sv T tv rb hS hT hO _ W33 E33 (GK G ksL yL) st32 x32 (R32.ext X33) (by intro h; exact hmL (by simp [pProgGo, pmD, hres29, hres32, hc30, hc31, mOpt, mLim, hlim, h]))) rfl rfl (by rintro p H' ⟨ae, hbad, rfl, Wb, Eb, xb, Fb⟩; change _ ∧ _; exact ⟨rfl, ae, by rw [heq]; simp [pProgGo, pmD, hres29, hres32, hc30, hc31, mOpt, mLim, hlim, hbad], rfl, Wb, Eb, xb, (FF32.trans WS (Fr2.ofExt X33)).trans WS Fb⟩) ?_; rintro _ H34 ⟨v34, st34, x34, hres34, rfl, R34, F34⟩
    obtain ⟨nv34, hA34, hN34⟩ := R34.at_
    have W34 := R34.w; have E34 := R34.e; have FF34 := (FF32.trans WS (Fr2.ofExt X33)).trans WS F34; have hal34 := R34.al
    have Q34 := KQ.fr (Q32.ext X33) R34 F34
    refine o_asP ?_
    refine o_nilP ?_
    refine w_srP ?_
    refine o_mvP ?_
    refine o_clP rfl rfl tS rfl (want_ct ho W0 ho81 tx ho69 src sv T tv rb hS hT hO [58] _ W34 E34 (GK G ksL yL) st34 x34 R34 (by intro h; exact hmL (by simp [pProgGo, pmD, hres29, hres32, hres34, hc30, hc31, mOpt, mLim, hlim, h]))) rfl rfl (by rintro p H' ⟨ae, hbad, rfl, Wb, Eb, xb, Fb⟩; change _ ∧ _; exact ⟨rfl, ae, by rw [heq]; simp [pProgGo, pmD, hres29, hres32, hres34, hc30, hc31, mOpt, mLim, hlim, hbad], rfl, Wb, Eb, xb, FF34.trans WS Fb⟩) ?_; rintro _ H35 ⟨v35, st35, x35, hres35, rfl, R35, F35⟩
    obtain ⟨nv35, hA35, hN35⟩ := R35.at_
    have W35 := R35.w; have E35 := R35.e; have FF35 := FF34.trans WS F35; have hal35 := R35.al
    have Q35 := KQ.fr Q34 R35 F35
    refine o_nilP ?_
    refine w_regionP ?_
    refine o_mvP ?_
    refine o_mvP ?_
    refine o_mvP ?_
    refine o_mvP ?_
    refine o_mvP ?_
    refine o_clP rfl rfl tS rfl ((ih fu (by omega)).typ _ W35 E35 (GK G ksL yL) st35 x35 R35 (by intro h; exact hmL (by simp [pProgGo, pmD, hres29, hres32, hres34, hres35, hc30, hc31, mOpt, mLim, hlim, h]))) rfl rfl (by rintro p H' ⟨ae, hbad, rfl, Wb, Eb, xb, Fb⟩; change _ ∧ _; exact ⟨rfl, ae, by rw [heq]; simp [pProgGo, pmD, hres29, hres32, hres34, hres35, hc30, hc31, mOpt, mLim, hlim, hbad], rfl, Wb, Eb, xb, FF35.trans WS Fb⟩) ?_; rintro _ H36 ⟨v36, st36, x36, hres36, rfl, R36, F36⟩
    obtain ⟨nv36, hA36, hN36⟩ := R36.at_
    have W36 := R36.w; have E36 := R36.e; have FF36 := FF35.trans WS F36; have hal36 := R36.al
    have Q36 := KQ.fr Q35 R36 F36
    refine o_stepP ?_
    refine o_nw W36 (a_build1 Try.underlying39 Ty.csz3 Ty.zero3 rfl tE rfl (by decide)) rfl rfl rfl (by simp) ?_; intro H37 n37 W37 X37 A37
    have E37 := E36.trans X37
    have hA36 := X37.keep _ _ hA36
    have L37 : SI H37 [v36] (freshSl (H36.n) 1 1) := si_fresh (ks := [v36]) A37 (by simp)
    refine o_nil ?_
    refine o_stepP ?_
    refine o_cl rfl rfl tS rfl (node_fin ho W0 W37 E37 src sv T tv rb (GK G ksL yL) st36 x36 hS hT hO (R36.ext X37) (42) (plF src T st32.a) (0) v34 [v36] _ (L37) (node_ok (k := 42) (a := plF src T st32.a) (n := 0) (nm := v34) (ks := [v36]) (st := st36) (by intro h; exact hmL (by simp [pProgGo, pmD, hres29, hres32, hres34, hres35, hres36, hc30, hc31, mOpt, mLim, hlim, h]))).1 (node_ok (k := 42) (a := plF src T st32.a) (n := 0) (nm := v34) (ks := [v36]) (st := st36) (by intro h; exact hmL (by simp [pProgGo, pmD, hres29, hres32, hres34, hres35, hres36, hc30, hc31, mOpt, mLim, hlim, h]))).2) rfl rfl ?_; rintro _ H38 ⟨v38, st38, x38, hres38, rfl, R38, F38⟩
    obtain ⟨nv38, hA38, hN38⟩ := R38.at_
    have W38 := R38.w; have E38 := R38.e; have FF38 := (FF36.trans WS (Fr2.ofExt X37)).trans WS F38; have hal38 := R38.al
    have Q38 := KQ.fr (Q36.ext X37) R38 F38
    refine o_nil ?_
    refine o_stepP ?_
    refine o_nw W38 (a_build1 Try.underlying39 Ty.csz3 Ty.zero3 rfl tE rfl (by decide)) rfl rfl rfl (by simp) ?_; intro H39 n39 W39 X39 A39
    have E39 := E38.trans X39
    have hA38 := X39.keep _ _ hA38
    refine o_nil ?_
    refine o_stepP ?_
    refine o_apK (n0 := HS.n) (vs := [v38]) W0 W39 (Q38.ext X39) (FF38.trans WS (Fr2.ofExt X39)).n ES.n Try.underlying39 Try.underlying39 rfl Ty.csz3 Ty.byt3 Ty.zero3 rfl tE tE (src_fresh (n := 1) A39 rfl) (by simp) (by first | exact Nat.le_of_ble_eq_true rfl | (simp only [List.length_append, List.length_singleton]; omega)) rfl rfl ?_; intro kv40 H40 y40 Q40 A40
    obtain ⟨nv40, hA40, hN40⟩ := Q40.r.at_
    have W40 := Q40.r.w; have E40 := Q40.r.e; have FF40 := (FF38.trans WS (Fr2.ofExt X39)).app WS (Q38.ext X39) A40
    refine o_nil ?_
    refine o_asP ?_
    refine o_nilP ?_
    exact ⟨fu, (by omega), _, H40, st38, x38, nv40, (ksL ++ [v38]), kv40, y40, rfl, tV, tV, tV, tV, tV, W40, E40, hA40, (by omega), (heq.trans (by simp [pProgGo, pmD, hres29, hres32, hres34, hres35, hres36, hres38, hc30, hc31, mOpt, mLim, hlim])), Q40, FF40⟩
   ·have hc31 := (show ¬ 0 < ksL.length by have h := dec_f hB31; omega)
    refine w_skip ?_
    refine w_srP ?_
    refine o_mvP ?_
    refine o_stepP ?_
    refine o_cl rfl rfl tS rfl (place_fin ho W0 W29 E29 src sv T tv rb (GK G ksL yL) st29 x29 hS hT hO R29) rfl rfl ?_; rintro _ H41 ⟨rfl, X41⟩
    have W41 := X41.wf; have E41 := E29.trans X41
    have hA29 := X41.keep _ _ hA29
    have n41 := X41.n
    refine o_nil ?_
    refine o_asP ?_
    refine o_nilP ?_
    refine w_srP ?_
    refine o_mvP ?_
    refine o_clP rfl rfl tS rfl (name_ct ho W0 ho81 tx ho69 src sv T tv rb hS hT hO _ W41 E41 (GK G ksL yL) st29 x29 (R29.ext X41) (by intro h; exact hmL (by simp [pProgGo, pmD, hres29, hc30, hc31, mOpt, mLim, hlim, h]))) rfl rfl (by rintro p H' ⟨ae, hbad, rfl, Wb, Eb, xb, Fb⟩; change _ ∧ _; exact ⟨rfl, ae, by rw [heq]; simp [pProgGo, pmD, hres29, hc30, hc31, mOpt, mLim, hlim, hbad], rfl, Wb, Eb, xb, (FF29.trans WS (Fr2.ofExt X41)).trans WS Fb⟩) ?_; rintro _ H42 ⟨v42, st42, x42, hres42, rfl, R42, F42⟩
    obtain ⟨nv42, hA42, hN42⟩ := R42.at_
    have W42 := R42.w; have E42 := R42.e; have FF42 := (FF29.trans WS (Fr2.ofExt X41)).trans WS F42; have hal42 := R42.al
    have Q42 := KQ.fr (Q29.ext X41) R42 F42
    refine o_asP ?_
    refine o_nilP ?_
    refine w_srP ?_
    refine o_mvP ?_
    refine o_clP rfl rfl tS rfl (want_ct ho W0 ho81 tx ho69 src sv T tv rb hS hT hO [58] _ W42 E42 (GK G ksL yL) st42 x42 R42 (by intro h; exact hmL (by simp [pProgGo, pmD, hres29, hres42, hc30, hc31, mOpt, mLim, hlim, h]))) rfl rfl (by rintro p H' ⟨ae, hbad, rfl, Wb, Eb, xb, Fb⟩; change _ ∧ _; exact ⟨rfl, ae, by rw [heq]; simp [pProgGo, pmD, hres29, hres42, hc30, hc31, mOpt, mLim, hlim, hbad], rfl, Wb, Eb, xb, FF42.trans WS Fb⟩) ?_; rintro _ H43 ⟨v43, st43, x43, hres43, rfl, R43, F43⟩
    obtain ⟨nv43, hA43, hN43⟩ := R43.at_
    have W43 := R43.w; have E43 := R43.e; have FF43 := FF42.trans WS F43; have hal43 := R43.al
    have Q43 := KQ.fr Q42 R43 F43
    refine o_nilP ?_
    refine w_regionP ?_
    refine o_mvP ?_
    refine o_mvP ?_
    refine o_mvP ?_
    refine o_mvP ?_
    refine o_mvP ?_
    refine o_clP rfl rfl tS rfl ((ih fu (by omega)).typ _ W43 E43 (GK G ksL yL) st43 x43 R43 (by intro h; exact hmL (by simp [pProgGo, pmD, hres29, hres42, hres43, hc30, hc31, mOpt, mLim, hlim, h]))) rfl rfl (by rintro p H' ⟨ae, hbad, rfl, Wb, Eb, xb, Fb⟩; change _ ∧ _; exact ⟨rfl, ae, by rw [heq]; simp [pProgGo, pmD, hres29, hres42, hres43, hc30, hc31, mOpt, mLim, hlim, hbad], rfl, Wb, Eb, xb, FF43.trans WS Fb⟩) ?_; rintro _ H44 ⟨v44, st44, x44, hres44, rfl, R44, F44⟩
    obtain ⟨nv44, hA44, hN44⟩ := R44.at_
    have W44 := R44.w; have E44 := R44.e; have FF44 := FF43.trans WS F44; have hal44 := R44.al
    have Q44 := KQ.fr Q43 R44 F44
    refine o_stepP ?_
    refine o_nw W44 (a_build1 Try.underlying39 Ty.csz3 Ty.zero3 rfl tE rfl (by decide)) rfl rfl rfl (by simp) ?_; intro H45 n45 W45 X45 A45
    have E45 := E44.trans X45
    have hA44 := X45.keep _ _ hA44
    have L45 : SI H45 [v44] (freshSl (H44.n) 1 1) := si_fresh (ks := [v44]) A45 (by simp)
    refine o_nil ?_
    refine o_stepP ?_
    refine o_cl rfl rfl tS rfl (node_fin ho W0 W45 E45 src sv T tv rb (GK G ksL yL) st44 x44 hS hT hO (R44.ext X45) (42) (plF src T st29.a) (0) v42 [v44] _ (L45) (node_ok (k := 42) (a := plF src T st29.a) (n := 0) (nm := v42) (ks := [v44]) (st := st44) (by intro h; exact hmL (by simp [pProgGo, pmD, hres29, hres42, hres43, hres44, hc30, hc31, mOpt, mLim, hlim, h]))).1 (node_ok (k := 42) (a := plF src T st29.a) (n := 0) (nm := v42) (ks := [v44]) (st := st44) (by intro h; exact hmL (by simp [pProgGo, pmD, hres29, hres42, hres43, hres44, hc30, hc31, mOpt, mLim, hlim, h]))).2) rfl rfl ?_; rintro _ H46 ⟨v46, st46, x46, hres46, rfl, R46, F46⟩
    obtain ⟨nv46, hA46, hN46⟩ := R46.at_
    have W46 := R46.w; have E46 := R46.e; have FF46 := (FF44.trans WS (Fr2.ofExt X45)).trans WS F46; have hal46 := R46.al
    have Q46 := KQ.fr (Q44.ext X45) R46 F46
    refine o_nil ?_
    refine o_stepP ?_
    refine o_nw W46 (a_build1 Try.underlying39 Ty.csz3 Ty.zero3 rfl tE rfl (by decide)) rfl rfl rfl (by simp) ?_; intro H47 n47 W47 X47 A47
    have E47 := E46.trans X47
    have hA46 := X47.keep _ _ hA46
    refine o_nil ?_
    refine o_stepP ?_
    refine o_apK (n0 := HS.n) (vs := [v46]) W0 W47 (Q46.ext X47) (FF46.trans WS (Fr2.ofExt X47)).n ES.n Try.underlying39 Try.underlying39 rfl Ty.csz3 Ty.byt3 Ty.zero3 rfl tE tE (src_fresh (n := 1) A47 rfl) (by simp) (by first | exact Nat.le_of_ble_eq_true rfl | (simp only [List.length_append, List.length_singleton]; omega)) rfl rfl ?_; intro kv48 H48 y48 Q48 A48
    obtain ⟨nv48, hA48, hN48⟩ := Q48.r.at_
    have W48 := Q48.r.w; have E48 := Q48.r.e; have FF48 := (FF46.trans WS (Fr2.ofExt X47)).app WS (Q46.ext X47) A48
    refine o_nil ?_
    refine o_asP ?_
    refine o_nilP ?_
    exact ⟨fu, (by omega), _, H48, st46, x46, nv48, (ksL ++ [v46]), kv48, y48, rfl, tV, tV, tV, tV, tV, W48, E48, hA48, (by omega), (heq.trans (by simp [pProgGo, pmD, hres29, hres42, hres43, hres44, hres46, hc30, hc31, mOpt, mLim, hlim])), Q48, FF48⟩
  ·have hc30 := (not_f hB30)
   first | refine w_exit (blk_exit ?_) | refine w_exit (show (0 = 0 → _) ∧ (0 ≠ 0 → _) from ⟨fun _ => ?_, fun c => absurd rfl c⟩)
   refine w_srP ?_
   refine o_mvP ?_
   refine o_mvP ?_
   refine o_mvP ?_
   refine o_mvP ?_
   have QQ49 := Q29
   refine o_clP rfl rfl tS rfl ((ih fu (by omega)).res _ W29 E29 G st29 x29 yL (20) (a) [] ksL (kvL) (QQ49.mono ES.n) (by intro h; exact hmL (by simp [pProgGo, pmD, hres29, hc30, mOpt, mLim, hlim, h]))) rfl rfl (by rintro p H' ⟨ae, hbad, rfl, Wb, Eb, xb, ksb, yb, Fb⟩; change _ ∧ _; exact ⟨rfl, ae, by rw [heq]; simp [pProgGo, pmD, hres29, hc30, mOpt, mLim, hlim, hbad], rfl, Wb, Eb, xb, Fr2.fr3 FF29 WS QQ49 Fb⟩) ?_; rintro _ H49 ⟨v49, st49, x49, ks49, y49, hres49, rfl, R49, F349⟩
   have FQ49 := Fr2.fr3 FF29 WS QQ49 F349
   obtain ⟨nv49, hA49, hN49⟩ := R49.at_
   have W49 := R49.w; have E49 := R49.e; have hal49 := R49.al
   refine o_asP ?_
   refine o_nilP ?_
   refine w_ret ?_
   change _ ∧ _
   refine ⟨rfl, .int .i64 (v49), (show resultA Try.prog [.tmp 4] _ = _ from tR), ?_⟩
   try dsimp only
   exact ⟨_, st49, x49, by rw [heq]; simp [pProgGo, pmD, hres29, hres49, hc30, mOpt, mLim, hlim], rfl, R49, FQ49⟩
end Go.Proofs.Ytehmhhlhlipbnaa.Vs
