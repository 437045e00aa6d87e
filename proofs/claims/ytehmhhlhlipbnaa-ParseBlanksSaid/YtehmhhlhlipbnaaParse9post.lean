/-
 The rest of the reader's functions.
-/
import Derived.Test.YtehmhhlhlipbnaaParse8
set_option autoImplicit false
set_option linter.unusedVariables false
set_option linter.unusedSimpArgs false
namespace Go.Proofs.Ytehmhhlhlipbnaa.Vs
open Go.VI Go.Proofs
variable {orc : CallF}
set_option maxRecDepth 100000 in
set_option maxHeartbeats 4000000 in
theorem post_fin (ho : NoOrcBut [7, 21, 69, 81] orc) {H0 HS : AH} (W0 : Wf H0) (WS : Wf HS) (ES : Ext H0 HS) (ho81 : ∃ sg, ∀ H, orc 81 [] H = some (.ret sg, H)) (tx : Nat → List UInt8) (ho69 : ∀ k : Nat, k < 67 → ∀ H, orc 69 [.int .i64 (k : Int)] H = some (.ret (.str (tx k)), H)) (src : List UInt8) (sv : AV) (T : List TK) (tv : AV) (rb : Nat) (G : LK → Prop) (st : PS) (x : LK) (hS : SB H0 5 src sv) (hT : TS H0 T tv) (hO : TOk src T) (hR : RS H0 sv tv T.length rb G HS st x) (f : Nat) (ih : ∀ g, g ≤ f → IH orc H0 sv tv rb tx src T g) (hm : pPost tx src T (f + 1) st ≠ none) : FinP Try.prog orc 94 [.ptr (.mt (rb)) (0)] HS (fun r H' => OkR H0 sv tv T.length rb G HS x (pPost tx src T (f + 1) st) (AV.int .i64) r H') (fun r H' => BadR H0 rb HS x (pPost tx src T (f + 1) st) r H') := by
 have E0 := ES
 obtain ⟨nv, hA, hN⟩ := hR.at_; have hr0 := hR.r0; have hTl := hO.len; have hal := hR.al; have hSb := hS.bound; have hrbl := WS.lt hA
 refine fin_ofP Try.func94 rfl (by rw [Try.ntmps94]; simp) (ho _ rfl _ _) ?_
 rw [Try.ntmps94]
 refine w_srP ?_
 refine o_asP ?_
 refine o_nilP ?_
 refine w_srP ?_
 refine o_mvP ?_
 refine o_clP rfl rfl tS rfl ((ih f (by omega)).prim _ WS E0 G st x hR (by intro h; exact hm (by simp [pPost, pmD, h]))) rfl rfl (by rintro p H' ⟨ae, hbad, rfl, Wb, Eb, xb, Fb⟩; change _ ∧ _; exact ⟨rfl, ae, by simp [pPost, pmD, hbad], rfl, Wb, Eb, xb, (Fr2.refl WS).trans WS Fb⟩) ?_; rintro _ H1 ⟨v1, st1, x1, hres1, rfl, R1, F1⟩
 obtain ⟨nv1, hA1, hN1⟩ := R1.at_
 have W1 := R1.w; have E1 := R1.e; have FF1 := (Fr2.refl WS).trans WS F1; have hal1 := R1.al
 refine o_asP ?_
 refine o_nilP ?_
 refine w_block ?_
 refine w_loop (fun m s => ∃ (e : Env) (H : AH) (stL : PS) (xL : LK) (nvL : AV) (eL : Int), s = ⟨e, H, []⟩ ∧ e.val 0 = .ptr (.mt (rb)) (0) ∧ e.val 2 = .int .i64 (0) ∧ e.val 3 = .int .i64 (eL) ∧ Wf H ∧ Ext H0 H ∧ H.at (rb) = some (.row [sv, tv, .int .i64 (((stL.a : Nat) : Int)), nvL] 58 false none) ∧ (m ≤ f) ∧ (pPost tx src T (f + 1) st = pPostGo tx src T m eL stL) ∧ (RS H0 sv tv T.length rb G H stL xL) ∧ (Fr2 rb HS x H xL)) (f) ⟨_, H1, st1, x1, _, v1, rfl, tV, tV, tV, W1, E1, hA1, (Nat.le_refl f), (by simp [pPost, pmD, hres1]), R1, FF1⟩ ?_
 intro m s hi
 obtain ⟨e, H2, stL, xL, nvL, eL, rfl, vt0, vt2, vt3, W2, E2, hA1, hmle, heq, R, F⟩ := hi
 have vA := And.intro vt0 (And.intro vt2 vt3)
 have l2_0 := W2.lt hA1
 have hmL := hm; rw [heq] at hmL
 obtain ⟨fu, rfl⟩ : ∃ q, m = q + 1 := by cases m with | zero => exact absurd rfl hmL | succ q => exact ⟨q, rfl⟩
 refine w_block ?_
 refine w_srP ?_
 refine o_mvP ?_
 refine o_stepP ?_
 refine o_cl rfl rfl tS rfl (place_fin ho W0 W2 E2 src sv T tv rb G stL xL hS hT hO R) rfl rfl ?_; rintro _ H3 ⟨rfl, X3⟩
 have W3 := X3.wf; have E3 := E2.trans X3
 have hA1 := X3.keep _ _ hA1
 have n3 := X3.n
 refine o_nil ?_
 refine o_asP ?_
 refine o_nilP ?_
 refine w_block ?_
 refine w_srP ?_
 refine o_mvP ?_
 refine o_stepP ?_
 refine o_cl rfl rfl tS rfl (got_fin ho W0 W3 E3 ho81 tx ho69 src sv T tv rb G stL xL hS hT hO (R.ext X3) [40]) rfl rfl ?_; rintro _ H4 ⟨v4, st4, x4, hres4, rfl, R4, F4⟩
 obtain ⟨nv4, hA4, hN4⟩ := R4.at_
 have W4 := R4.w; have E4 := R4.e; have FF4 := (F.trans WS (Fr2.ofExt X3)).trans WS F4; have hal4 := R4.al
 refine o_nil ?_
 refine o_asP ?_
 refine o_nilP ?_
 refine w_cond tE (fun hB5 => ?_) (fun hB5 => ?_)
 ·have hc5 := hB5
  refine w_srP ?_
  refine o_mvP ?_
  refine o_stepP ?_
  refine o_nw W4 (a_build1 Try.underlying39 Ty.csz3 Ty.zero3 rfl tE rfl (by decide)) rfl rfl rfl (by simp) ?_; intro H6 n6 W6 X6 A6
  have E6 := E4.trans X6
  have Q6 : KQ H0 HS.n sv tv T.length rb G H6 st4 x4 [eL] (freshSl (H4.n) 1 1) (H4.n, none) := KQ.row (vs := [eL]) R4 X6 n6 FF4.n A6 (by simp)
  have hA4 := X6.keep _ _ hA4
  refine o_nil ?_
  refine o_asP ?_
  refine o_nilP ?_
  refine w_seq ?_
  refine w_srP ?_
  refine o_mvP ?_
  refine o_stepP ?_
  refine o_cl rfl rfl tS rfl (got_fin ho W0 W6 E6 ho81 tx ho69 src sv T tv rb (GK G [eL] (H4.n, none)) st4 x4 hS hT hO Q6.r [41]) rfl rfl ?_; rintro _ H7 ⟨v7, st7, x7, hres7, rfl, R7, F7⟩
  obtain ⟨nv7, hA7, hN7⟩ := R7.at_
  have W7 := R7.w; have E7 := R7.e; have FF7 := (FF4.trans WS (Fr2.ofExt X6)).trans WS F7; have hal7 := R7.al
  have Q7 := KQ.fr Q6 R7 F7
  refine o_nil ?_
  refine o_rdP (r_not tE) rfl rfl ?_
  refine o_nilP ?_
  refine w_cond tE (fun hB8 => ?_) (fun hB8 => ?_)
  ·have hc8 := (not_t hB8)
   refine w_regionP ?_
   refine o_mvP ?_
   refine o_mvP ?_
   refine o_clP rfl rfl tS rfl ((ih fu (by omega)).list [41] _ W7 E7 (GK G [eL] (H4.n, none)) st7 x7 R7 (by intro h; exact hmL (by simp [pPostGo, pmD, hres4, hres7, hc5, hc8, h]))) rfl rfl (by rintro p H' ⟨ae, hbad, rfl, Wb, Eb, xb, Fb⟩; change _ ∧ _; exact ⟨rfl, ae, by rw [heq]; simp [pPostGo, pmD, hres4, hres7, hc5, hc8, hbad], rfl, Wb, Eb, xb, FF7.trans WS Fb⟩) ?_; rintro kv9 H9 ⟨ks9, st9, x9, y9, hres9, O9, hk9, hk29, hy9, hg9, RL9, F9⟩
   have R9 := RL9.anti (G := (GK G [eL] (H4.n, none))) (fun z hz => Or.inl hz)
   obtain ⟨nv9, hA9, hN9⟩ := R9.at_
   have W9 := R9.w; have E9 := R9.e; have FF9 := FF7.trans WS F9; have hal9 := R9.al
   have Q9 := KQ.fr Q7 R9 F9
   refine o_stepP ?_
   refine o_apK (n0 := HS.n) (vs := ks9) W0 W9 Q9 FF9.n ES.n Try.underlying39 Try.underlying39 rfl Ty.csz3 Ty.byt3 Ty.zero3 rfl tE tE (src_own O9).1 hk9 (by first | exact Nat.le_of_ble_eq_true rfl | (simp only [List.length_append, List.length_singleton]; omega)) rfl rfl ?_; intro kv10 H10 y10 Q10 A10
   have Q10 : KQ H0 HS.n sv tv T.length rb G H10 st9 x9 (eL :: ks9) kv10 y10 := Q10
   obtain ⟨nv10, hA10, hN10⟩ := Q10.r.at_
   have W10 := Q10.r.w; have E10 := Q10.r.e; have FF10 := FF9.app WS Q9 A10
   refine o_nil ?_
   refine o_asP ?_
   refine o_nilP ?_
   refine w_regionP ?_
   refine o_mvP ?_
   refine o_mvP ?_
   refine o_mvP ?_
   refine o_stepP ?_
   refine o_cl rfl rfl tS rfl (node_fin ho W0 W10 E10 src sv T tv rb (GK G (eL :: ks9) y10) st9 x9 hS hT hO Q10.r (23) (plF src T stL.a) (0) [] (eL :: ks9) _ ((Q10.kl.si (by have := (node_ok (k := 23) (a := plF src T stL.a) (n := 0) (nm := []) (ks := (eL :: ks9)) (st := st9) (by intro h; exact hmL (by simp [pPostGo, pmD, hres4, hres7, hres9, hc5, hc8, h]))).2; omega))) (node_ok (k := 23) (a := plF src T stL.a) (n := 0) (nm := []) (ks := (eL :: ks9)) (st := st9) (by intro h; exact hmL (by simp [pPostGo, pmD, hres4, hres7, hres9, hc5, hc8, h]))).1 (node_ok (k := 23) (a := plF src T stL.a) (n := 0) (nm := []) (ks := (eL :: ks9)) (st := st9) (by intro h; exact hmL (by simp [pPostGo, pmD, hres4, hres7, hres9, hc5, hc8, h]))).2) rfl rfl ?_; rintro _ H11 ⟨v11, st11, x11, hres11, rfl, R11, F11⟩
   obtain ⟨nv11, hA11, hN11⟩ := R11.at_
   have W11 := R11.w; have E11 := R11.e; have FF11 := FF10.trans WS F11; have hal11 := R11.al
   have Q11 := KQ.fr Q10 R11 F11
   refine o_nil ?_
   refine o_asP ?_
   refine o_nilP ?_
   exact ⟨fu, (by omega), _, H11, st11, x11, _, v11, rfl, tV, tV, tV, W11, E11, hA11, (by omega), (heq.trans (by simp [pPostGo, pmD, hres4, hres7, hres9, hres11, hc5, hc8])), (R11.anti (fun z hz => Or.inl hz)), FF11⟩
  ·have hc8 := (not_f hB8)
   refine w_skip ?_
   refine w_regionP ?_
   refine o_mvP ?_
   refine o_mvP ?_
   refine o_mvP ?_
   refine o_stepP ?_
   refine o_cl rfl rfl tS rfl (node_fin ho W0 W7 E7 src sv T tv rb (GK G [eL] (H4.n, none)) st7 x7 hS hT hO R7 (23) (plF src T stL.a) (0) [] [eL] _ ((Q7.kl.si (by have := (node_ok (k := 23) (a := plF src T stL.a) (n := 0) (nm := []) (ks := [eL]) (st := st7) (by intro h; exact hmL (by simp [pPostGo, pmD, hres4, hres7, hc5, hc8, h]))).2; omega))) (node_ok (k := 23) (a := plF src T stL.a) (n := 0) (nm := []) (ks := [eL]) (st := st7) (by intro h; exact hmL (by simp [pPostGo, pmD, hres4, hres7, hc5, hc8, h]))).1 (node_ok (k := 23) (a := plF src T stL.a) (n := 0) (nm := []) (ks := [eL]) (st := st7) (by intro h; exact hmL (by simp [pPostGo, pmD, hres4, hres7, hc5, hc8, h]))).2) rfl rfl ?_; rintro _ H12 ⟨v12, st12, x12, hres12, rfl, R12, F12⟩
   obtain ⟨nv12, hA12, hN12⟩ := R12.at_
   have W12 := R12.w; have E12 := R12.e; have FF12 := FF7.trans WS F12; have hal12 := R12.al
   have Q12 := KQ.fr Q7 R12 F12
   refine o_nil ?_
   refine o_asP ?_
   refine o_nilP ?_
   exact ⟨fu, (by omega), _, H12, st12, x12, _, v12, rfl, tV, tV, tV, W12, E12, hA12, (by omega), (heq.trans (by simp [pPostGo, pmD, hres4, hres7, hres12, hc5, hc8])), (R12.anti (fun z hz => Or.inl hz)), FF12⟩
 ·have hc5 := hB5
  refine w_srP ?_
  refine o_mvP ?_
  refine o_stepP ?_
  refine o_cl rfl rfl tS rfl (got_fin ho W0 W4 E4 ho81 tx ho69 src sv T tv rb G st4 x4 hS hT hO R4 [91]) rfl rfl ?_; rintro _ H13 ⟨v13, st13, x13, hres13, rfl, R13, F13⟩
  obtain ⟨nv13, hA13, hN13⟩ := R13.at_
  have W13 := R13.w; have E13 := R13.e; have FF13 := FF4.trans WS F13; have hal13 := R13.al
  refine o_nil ?_
  refine o_asP ?_
  refine o_nilP ?_
  refine w_cond tE (fun hB14 => ?_) (fun hB14 => ?_)
  ·have hc14 := hB14
   refine w_srP ?_
   refine o_mvP ?_
   refine o_clP rfl rfl tS rfl ((ih fu (by omega)).expr _ W13 E13 G st13 x13 R13 (by intro h; exact hmL (by simp [pPostGo, pmD, hres4, hres13, hc5, hc14, h]))) rfl rfl (by rintro p H' ⟨ae, hbad, rfl, Wb, Eb, xb, Fb⟩; change _ ∧ _; exact ⟨rfl, ae, by rw [heq]; simp [pPostGo, pmD, hres4, hres13, hc5, hc14, hbad], rfl, Wb, Eb, xb, FF13.trans WS Fb⟩) ?_; rintro _ H15 ⟨v15, st15, x15, hres15, rfl, R15, F15⟩
   obtain ⟨nv15, hA15, hN15⟩ := R15.at_
   have W15 := R15.w; have E15 := R15.e; have FF15 := FF13.trans WS F15; have hal15 := R15.al
   refine o_asP ?_
   refine o_nilP ?_
   refine w_srP ?_
   refine o_mvP ?_
   refine o_clP rfl rfl tS rfl (want_ct ho W0 ho81 tx ho69 src sv T tv rb hS hT hO [93] _ W15 E15 G st15 x15 R15 (by intro h; exact hmL (by simp [pPostGo, pmD, hres4, hres13, hres15, hc5, hc14, h]))) rfl rfl (by rintro p H' ⟨ae, hbad, rfl, Wb, Eb, xb, Fb⟩; change _ ∧ _; exact ⟨rfl, ae, by rw [heq]; simp [pPostGo, pmD, hres4, hres13, hres15, hc5, hc14, hbad], rfl, Wb, Eb, xb, FF15.trans WS Fb⟩) ?_; rintro _ H16 ⟨v16, st16, x16, hres16, rfl, R16, F16⟩
   obtain ⟨nv16, hA16, hN16⟩ := R16.at_
   have W16 := R16.w; have E16 := R16.e; have FF16 := FF15.trans WS F16; have hal16 := R16.al
   refine o_nilP ?_
   refine w_regionP ?_
   refine o_mvP ?_
   refine o_mvP ?_
   refine o_mvP ?_
   refine o_mvP ?_
   refine o_stepP ?_
   refine o_nw W16 (a_build2 Try.underlying39 Ty.csz3 Ty.zero3 tE tE) rfl rfl rfl (by simp) ?_; intro H17 n17 W17 X17 A17
   have E17 := E16.trans X17
   have hA16 := X17.keep _ _ hA16
   have L17 : SI H17 [eL, v15] (freshSl (H16.n) 2 2) := si_fresh (ks := [eL, v15]) A17 (by simp)
   refine o_nil ?_
   refine o_stepP ?_
   refine o_cl rfl rfl tS rfl (node_fin ho W0 W17 E17 src sv T tv rb G st16 x16 hS hT hO (R16.ext X17) (24) (plF src T stL.a) (0) [] [eL, v15] _ (L17) (node_ok (k := 24) (a := plF src T stL.a) (n := 0) (nm := []) (ks := [eL, v15]) (st := st16) (by intro h; exact hmL (by simp [pPostGo, pmD, hres4, hres13, hres15, hres16, hc5, hc14, h]))).1 (node_ok (k := 24) (a := plF src T stL.a) (n := 0) (nm := []) (ks := [eL, v15]) (st := st16) (by intro h; exact hmL (by simp [pPostGo, pmD, hres4, hres13, hres15, hres16, hc5, hc14, h]))).2) rfl rfl ?_; rintro _ H18 ⟨v18, st18, x18, hres18, rfl, R18, F18⟩
   obtain ⟨nv18, hA18, hN18⟩ := R18.at_
   have W18 := R18.w; have E18 := R18.e; have FF18 := (FF16.trans WS (Fr2.ofExt X17)).trans WS F18; have hal18 := R18.al
   refine o_nil ?_
   refine o_asP ?_
   refine o_nilP ?_
   exact ⟨fu, (by omega), _, H18, st18, x18, _, v18, rfl, tV, tV, tV, W18, E18, hA18, (by omega), (heq.trans (by simp [pPostGo, pmD, hres4, hres13, hres15, hres16, hres18, hc5, hc14])), R18, FF18⟩
  ·have hc14 := hB14
   refine w_srP ?_
   refine o_mvP ?_
   refine o_stepP ?_
   refine o_cl rfl rfl tS rfl (got_fin ho W0 W13 E13 ho81 tx ho69 src sv T tv rb G st13 x13 hS hT hO R13 [46]) rfl rfl ?_; rintro _ H19 ⟨v19, st19, x19, hres19, rfl, R19, F19⟩
   obtain ⟨nv19, hA19, hN19⟩ := R19.at_
   have W19 := R19.w; have E19 := R19.e; have FF19 := FF13.trans WS F19; have hal19 := R19.al
   refine o_nil ?_
   refine o_asP ?_
   refine o_nilP ?_
   refine w_cond tE (fun hB20 => ?_) (fun hB20 => ?_)
   ·have hc20 := hB20
    refine w_regionP ?_
    refine o_mvP ?_
    refine o_mvP ?_
    refine o_mvP ?_
    refine o_clP rfl rfl tS rfl (num_ct ho W0 ho81 tx ho69 src sv T tv rb hS hT hO _ W19 E19 G st19 x19 R19 (by intro h; exact hmL (by simp [pPostGo, pmD, hres4, hres13, hres19, hc5, hc14, hc20, h]))) rfl rfl (by rintro p H' ⟨ae, hbad, rfl, Wb, Eb, xb, Fb⟩; change _ ∧ _; exact ⟨rfl, ae, by rw [heq]; simp [pPostGo, pmD, hres4, hres13, hres19, hc5, hc14, hc20, hbad], rfl, Wb, Eb, xb, FF19.trans WS Fb⟩) ?_; rintro _ H21 ⟨v21, st21, x21, hres21, rfl, R21, F21⟩
    obtain ⟨nv21, hA21, hN21⟩ := R21.at_
    have W21 := R21.w; have E21 := R21.e; have FF21 := FF19.trans WS F21; have hal21 := R21.al
    refine o_mvP ?_
    refine o_stepP ?_
    refine o_nw W21 (a_build1 Try.underlying39 Ty.csz3 Ty.zero3 rfl tE rfl (by decide)) rfl rfl rfl (by simp) ?_; intro H22 n22 W22 X22 A22
    have E22 := E21.trans X22
    have hA21 := X22.keep _ _ hA21
    have L22 : SI H22 [eL] (freshSl (H21.n) 1 1) := si_fresh (ks := [eL]) A22 (by simp)
    refine o_nil ?_
    refine o_stepP ?_
    refine o_cl rfl rfl tS rfl (node_fin ho W0 W22 E22 src sv T tv rb G st21 x21 hS hT hO (R21.ext X22) (25) (plF src T stL.a) (v21) [] [eL] _ (L22) (node_ok (k := 25) (a := plF src T stL.a) (n := v21) (nm := []) (ks := [eL]) (st := st21) (by intro h; exact hmL (by simp [pPostGo, pmD, hres4, hres13, hres19, hres21, hc5, hc14, hc20, h]))).1 (node_ok (k := 25) (a := plF src T stL.a) (n := v21) (nm := []) (ks := [eL]) (st := st21) (by intro h; exact hmL (by simp [pPostGo, pmD, hres4, hres13, hres19, hres21, hc5, hc14, hc20, h]))).2) rfl rfl ?_; rintro _ H23 ⟨v23, st23, x23, hres23, rfl, R23, F23⟩
    obtain ⟨nv23, hA23, hN23⟩ := R23.at_
    have W23 := R23.w; have E23 := R23.e; have FF23 := (FF21.trans WS (Fr2.ofExt X22)).trans WS F23; have hal23 := R23.al
    refine o_nil ?_
    refine o_asP ?_
    refine o_nilP ?_
    exact ⟨fu, (by omega), _, H23, st23, x23, _, v23, rfl, tV, tV, tV, W23, E23, hA23, (by omega), (heq.trans (by simp [pPostGo, pmD, hres4, hres13, hres19, hres21, hres23, hc5, hc14, hc20])), R23, FF23⟩
   ·have hc20 := hB20
    refine w_srP ?_
    refine o_mvP ?_
    refine o_asP ?_
    refine o_nilP ?_
    refine w_ret ?_
    change _ ∧ _
    refine ⟨rfl, .int .i64 (eL), (show resultA Try.prog [.tmp 2] _ = _ from tR), ?_⟩
    try dsimp only
    exact ⟨_, st19, x19, by rw [heq]; simp [pPostGo, pmD, hres4, hres13, hres19, hc5, hc14, hc20], rfl, R19, FF19⟩
end Go.Proofs.Ytehmhhlhlipbnaa.Vs
