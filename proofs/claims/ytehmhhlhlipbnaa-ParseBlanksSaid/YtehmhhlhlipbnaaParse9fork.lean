/-
 The rest of the reader's functions.
-/
import Derived.Test.YtehmhhlhlipbnaaParse8
set_option autoImplicit false
set_option linter.unusedVariables false
set_option linter.unusedSimpArgs false
namespace Go.Proofs.Ytehmhhlhlipbnaa.Vs
open Go.VI Go.Proofs
variable {orc : CallF}
set_option maxRecDepth 100000 in
set_option maxHeartbeats 4000000 in
theorem fork_fin (ho : NoOrcBut [7, 21, 69, 81] orc) {H0 HS : AH} (W0 : Wf H0) (WS : Wf HS) (ES : Ext H0 HS) (ho81 : ∃ sg, ∀ H, orc 81 [] H = some (.ret sg, H)) (tx : Nat → List UInt8) (ho69 : ∀ k : Nat, k < 67 → ∀ H, orc 69 [.int .i64 (k : Int)] H = some (.ret (.str (tx k)), H)) (src : List UInt8) (sv : AV) (T : List TK) (tv : AV) (rb : Nat) (G : LK → Prop) (st : PS) (x : LK) (hS : SB H0 5 src sv) (hT : TS H0 T tv) (hO : TOk src T) (hR : RS H0 sv tv T.length rb G HS st x) (f : Nat) (ih : ∀ g, g ≤ f → IH orc H0 sv tv rb tx src T g) (hm : pFork tx src T (f + 1) st ≠ none) : FinP Try.prog orc 78 [.ptr (.mt (rb)) (0)] HS (fun r H' => OkR H0 sv tv T.length rb G HS x (pFork tx src T (f + 1) st) (AV.int .i64) r H') (fun r H' => BadR H0 rb HS x (pFork tx src T (f + 1) st) r H') := by
 have E0 := ES
 obtain ⟨nv, hA, hN⟩ := hR.at_; have hr0 := hR.r0; have hTl := hO.len; have hal := hR.al; have hSb := hS.bound; have hrbl := WS.lt hA
 refine fin_ofP Try.func78 rfl (by rw [Try.ntmps78]; simp) (ho _ rfl _ _) ?_
 rw [Try.ntmps78]
 refine w_srP ?_
 refine o_asP ?_
 refine o_nilP ?_
 refine w_srP ?_
 refine o_mvP ?_
 refine o_clP rfl rfl tS rfl (want_ct ho W0 ho81 tx ho69 src sv T tv rb hS hT hO [105, 102] _ WS E0 G st x hR (by intro h; exact hm (by simp [pFork, pmD, h]))) rfl rfl (by rintro p H' ⟨ae, hbad, rfl, Wb, Eb, xb, Fb⟩; change _ ∧ _; exact ⟨rfl, ae, by simp [pFork, pmD, hbad], rfl, Wb, Eb, xb, (Fr2.refl WS).trans WS Fb⟩) ?_; rintro _ H1 ⟨v1, st1, x1, hres1, rfl, R1, F1⟩
 obtain ⟨nv1, hA1, hN1⟩ := R1.at_
 have W1 := R1.w; have E1 := R1.e; have FF1 := (Fr2.refl WS).trans WS F1; have hal1 := R1.al
 refine o_asP ?_
 refine o_nilP ?_
 refine w_srP ?_
 refine o_mvP ?_
 refine o_clP rfl rfl tS rfl ((ih f (by omega)).expr _ W1 E1 G st1 x1 R1 (by intro h; exact hm (by simp [pFork, pmD, hres1, h]))) rfl rfl (by rintro p H' ⟨ae, hbad, rfl, Wb, Eb, xb, Fb⟩; change _ ∧ _; exact ⟨rfl, ae, by simp [pFork, pmD, hres1, hbad], rfl, Wb, Eb, xb, FF1.trans WS Fb⟩) ?_; rintro _ H2 ⟨v2, st2, x2, hres2, rfl, R2, F2⟩
 obtain ⟨nv2, hA2, hN2⟩ := R2.at_
 have W2 := R2.w; have E2 := R2.e; have FF2 := FF1.trans WS F2; have hal2 := R2.al
 refine o_stepP ?_
 refine o_nw W2 (a_build1 Try.underlying39 Ty.csz3 Ty.zero3 rfl tE rfl (by decide)) rfl rfl rfl (by simp) ?_; intro H3 n3 W3 X3 A3
 have E3 := E2.trans X3
 have Q3 : KQ H0 HS.n sv tv T.length rb G H3 st2 x2 [v2] (freshSl (H2.n) 1 1) (H2.n, none) := KQ.row (vs := [v2]) R2 X3 n3 FF2.n A3 (by simp)
 have hA2 := X3.keep _ _ hA2
 refine o_nil ?_
 refine o_asP ?_
 refine o_nilP ?_
 refine w_srP ?_
 refine o_mvP ?_
 refine o_mvP ?_
 refine o_clP rfl rfl tS rfl ((ih f (by omega)).block _ W3 E3 (GK G [v2] (H2.n, none)) st2 x2 Q3.r (by intro h; exact hm (by simp [pFork, pmD, hres1, hres2, h]))) rfl rfl (by rintro p H' ⟨ae, hbad, rfl, Wb, Eb, xb, Fb⟩; change _ ∧ _; exact ⟨rfl, ae, by simp [pFork, pmD, hres1, hres2, hbad], rfl, Wb, Eb, xb, (FF2.trans WS (Fr2.ofExt X3)).trans WS Fb⟩) ?_; rintro _ H4 ⟨v4, st4, x4, hres4, rfl, R4, F4⟩
 obtain ⟨nv4, hA4, hN4⟩ := R4.at_
 have W4 := R4.w; have E4 := R4.e; have FF4 := (FF2.trans WS (Fr2.ofExt X3)).trans WS F4; have hal4 := R4.al
 have Q4 := KQ.fr Q3 R4 F4
 refine o_stepP ?_
 refine o_nw W4 (a_build1 Try.underlying39 Ty.csz3 Ty.zero3 rfl tE rfl (by decide)) rfl rfl rfl (by simp) ?_; intro H5 n5 W5 X5 A5
 have E5 := E4.trans X5
 have hA4 := X5.keep _ _ hA4
 refine o_nil ?_
 refine o_stepP ?_
 refine o_apK (n0 := HS.n) (vs := [v4]) W0 W5 (Q4.ext X5) (FF4.trans WS (Fr2.ofExt X5)).n ES.n Try.underlying39 Try.underlying39 rfl Ty.csz3 Ty.byt3 Ty.zero3 rfl tE tE (src_fresh (n := 1) A5 rfl) (by simp) (by first | exact Nat.le_of_ble_eq_true rfl | (simp only [List.length_append, List.length_singleton]; omega)) rfl rfl ?_; intro kv6 H6 y6 Q6 A6
 have Q6 : KQ H0 HS.n sv tv T.length rb G H6 st4 x4 [v2, v4] kv6 y6 := Q6
 obtain ⟨nv6, hA6, hN6⟩ := Q6.r.at_
 have W6 := Q6.r.w; have E6 := Q6.r.e; have FF6 := (FF4.trans WS (Fr2.ofExt X5)).app WS (Q4.ext X5) A6
 refine o_nil ?_
 refine o_asP ?_
 refine o_nilP ?_
 refine w_seq ?_
 refine w_srP ?_
 refine o_mvP ?_
 refine o_stepP ?_
 refine o_cl rfl rfl tS rfl (got_fin ho W0 W6 E6 ho81 tx ho69 src sv T tv rb (GK G [v2, v4] y6) st4 x4 hS hT hO Q6.r [101, 108, 115, 101]) rfl rfl ?_; rintro _ H7 ⟨v7, st7, x7, hres7, rfl, R7, F7⟩
 obtain ⟨nv7, hA7, hN7⟩ := R7.at_
 have W7 := R7.w; have E7 := R7.e; have FF7 := FF6.trans WS F7; have hal7 := R7.al
 have Q7 := KQ.fr Q6 R7 F7
 refine o_nil ?_
 refine o_nilP ?_
 refine w_cond tE (fun hB8 => ?_) (fun hB8 => ?_)
 ·have hc8 := hB8
  refine w_srP ?_
  refine o_mvP ?_
  refine o_stepP ?_
  refine o_cl rfl rfl tS rfl (is_fin ho W0 W7 E7 ho81 tx ho69 src sv T tv rb (GK G [v2, v4] y6) st7 x7 hS hT hO R7 [105, 102]) rfl rfl ?_; rintro _ H9 ⟨rfl, X9⟩
  have W9 := X9.wf; have E9 := E7.trans X9
  have hA7 := X9.keep _ _ hA7
  have n9 := X9.n
  refine o_nil ?_
  refine o_nilP ?_
  refine w_cond tE (fun hB10 => ?_) (fun hB10 => ?_)
  ·have hc10 := hB10
   refine w_regionP ?_
   refine o_mvP ?_
   refine o_mvP ?_
   refine o_clP rfl rfl tS rfl ((ih f (by omega)).fork _ W9 E9 (GK G [v2, v4] y6) st7 x7 (R7.ext X9) (by intro h; exact hm (by simp [pFork, pmD, hres1, hres2, hres4, hres7, hc8, hc10, h]))) rfl rfl (by rintro p H' ⟨ae, hbad, rfl, Wb, Eb, xb, Fb⟩; change _ ∧ _; exact ⟨rfl, ae, by simp [pFork, pmD, hres1, hres2, hres4, hres7, hc8, hc10, hbad], rfl, Wb, Eb, xb, (FF7.trans WS (Fr2.ofExt X9)).trans WS Fb⟩) ?_; rintro _ H11 ⟨v11, st11, x11, hres11, rfl, R11, F11⟩
   obtain ⟨nv11, hA11, hN11⟩ := R11.at_
   have W11 := R11.w; have E11 := R11.e; have FF11 := (FF7.trans WS (Fr2.ofExt X9)).trans WS F11; have hal11 := R11.al
   have Q11 := KQ.fr (Q7.ext X9) R11 F11
   refine o_stepP ?_
   refine o_nw W11 (a_build1 Try.underlying39 Ty.csz3 Ty.zero3 rfl tE rfl (by decide)) rfl rfl rfl (by simp) ?_; intro H12 n12 W12 X12 A12
   have E12 := E11.trans X12
   have hA11 := X12.keep _ _ hA11
   refine o_nil ?_
   refine o_stepP ?_
   refine o_apK (n0 := HS.n) (vs := [v11]) W0 W12 (Q11.ext X12) (FF11.trans WS (Fr2.ofExt X12)).n ES.n Try.underlying39 Try.underlying39 rfl Ty.csz3 Ty.byt3 Ty.zero3 rfl tE tE (src_fresh (n := 1) A12 rfl) (by simp) (by first | exact Nat.le_of_ble_eq_true rfl | (simp only [List.length_append, List.length_singleton]; omega)) rfl rfl ?_; intro kv13 H13 y13 Q13 A13
   have Q13 : KQ H0 HS.n sv tv T.length rb G H13 st11 x11 [v2, v4, v11] kv13 y13 := Q13
   obtain ⟨nv13, hA13, hN13⟩ := Q13.r.at_
   have W13 := Q13.r.w; have E13 := Q13.r.e; have FF13 := (FF11.trans WS (Fr2.ofExt X12)).app WS (Q11.ext X12) A13
   refine o_nil ?_
   refine o_asP ?_
   refine o_nilP ?_
   refine w_srP ?_
   refine o_mvP ?_
   refine o_mvP ?_
   refine o_mvP ?_
   refine o_stepP ?_
   refine o_cl rfl rfl tS rfl (node_fin ho W0 W13 E13 src sv T tv rb (GK G [v2, v4, v11] y13) st11 x11 hS hT hO Q13.r (36) (v1) (0) [] [v2, v4, v11] _ ((Q13.kl.si (by have := (node_ok (k := 36) (a := v1) (n := 0) (nm := []) (ks := [v2, v4, v11]) (st := st11) (by intro h; exact hm (by simp [pFork, pmD, hres1, hres2, hres4, hres7, hres11, hc8, hc10, h]))).2; omega))) (node_ok (k := 36) (a := v1) (n := 0) (nm := []) (ks := [v2, v4, v11]) (st := st11) (by intro h; exact hm (by simp [pFork, pmD, hres1, hres2, hres4, hres7, hres11, hc8, hc10, h]))).1 (node_ok (k := 36) (a := v1) (n := 0) (nm := []) (ks := [v2, v4, v11]) (st := st11) (by intro h; exact hm (by simp [pFork, pmD, hres1, hres2, hres4, hres7, hres11, hc8, hc10, h]))).2) rfl rfl ?_; rintro _ H14 ⟨v14, st14, x14, hres14, rfl, R14, F14⟩
   obtain ⟨nv14, hA14, hN14⟩ := R14.at_
   have W14 := R14.w; have E14 := R14.e; have FF14 := FF13.trans WS F14; have hal14 := R14.al
   have Q14 := KQ.fr Q13 R14 F14
   refine o_nil ?_
   refine o_asP ?_
   refine o_nilP ?_
   refine w_ret ?_
   change _ ∧ _
   refine ⟨rfl, .int .i64 (v14), (show resultA Try.prog [.tmp 2] _ = _ from tR), ?_⟩
   try dsimp only
   exact ⟨_, st14, x14, by simp [pFork, pmD, hres1, hres2, hres4, hres7, hres11, hres14, hc8, hc10], rfl, (R14.anti (fun z hz => Or.inl hz)), FF14⟩
  ·have hc10 := hB10
   refine w_regionP ?_
   refine o_mvP ?_
   refine o_mvP ?_
   refine o_clP rfl rfl tS rfl ((ih f (by omega)).block _ W9 E9 (GK G [v2, v4] y6) st7 x7 (R7.ext X9) (by intro h; exact hm (by simp [pFork, pmD, hres1, hres2, hres4, hres7, hc8, hc10, h]))) rfl rfl (by rintro p H' ⟨ae, hbad, rfl, Wb, Eb, xb, Fb⟩; change _ ∧ _; exact ⟨rfl, ae, by simp [pFork, pmD, hres1, hres2, hres4, hres7, hc8, hc10, hbad], rfl, Wb, Eb, xb, (FF7.trans WS (Fr2.ofExt X9)).trans WS Fb⟩) ?_; rintro _ H15 ⟨v15, st15, x15, hres15, rfl, R15, F15⟩
   obtain ⟨nv15, hA15, hN15⟩ := R15.at_
   have W15 := R15.w; have E15 := R15.e; have FF15 := (FF7.trans WS (Fr2.ofExt X9)).trans WS F15; have hal15 := R15.al
   have Q15 := KQ.fr (Q7.ext X9) R15 F15
   refine o_stepP ?_
   refine o_nw W15 (a_build1 Try.underlying39 Ty.csz3 Ty.zero3 rfl tE rfl (by decide)) rfl rfl rfl (by simp) ?_; intro H16 n16 W16 X16 A16
   have E16 := E15.trans X16
   have hA15 := X16.keep _ _ hA15
   refine o_nil ?_
   refine o_stepP ?_
   refine o_apK (n0 := HS.n) (vs := [v15]) W0 W16 (Q15.ext X16) (FF15.trans WS (Fr2.ofExt X16)).n ES.n Try.underlying39 Try.underlying39 rfl Ty.csz3 Ty.byt3 Ty.zero3 rfl tE tE (src_fresh (n := 1) A16 rfl) (by simp) (by first | exact Nat.le_of_ble_eq_true rfl | (simp only [List.length_append, List.length_singleton]; omega)) rfl rfl ?_; intro kv17 H17 y17 Q17 A17
   have Q17 : KQ H0 HS.n sv tv T.length rb G H17 st15 x15 [v2, v4, v15] kv17 y17 := Q17
   obtain ⟨nv17, hA17, hN17⟩ := Q17.r.at_
   have W17 := Q17.r.w; have E17 := Q17.r.e; have FF17 := (FF15.trans WS (Fr2.ofExt X16)).app WS (Q15.ext X16) A17
   refine o_nil ?_
   refine o_asP ?_
   refine o_nilP ?_
   refine w_srP ?_
   refine o_mvP ?_
   refine o_mvP ?_
   refine o_mvP ?_
   refine o_stepP ?_
   refine o_cl rfl rfl tS rfl (node_fin ho W0 W17 E17 src sv T tv rb (GK G [v2, v4, v15] y17) st15 x15 hS hT hO Q17.r (36) (v1) (0) [] [v2, v4, v15] _ ((Q17.kl.si (by have := (node_ok (k := 36) (a := v1) (n := 0) (nm := []) (ks := [v2, v4, v15]) (st := st15) (by intro h; exact hm (by simp [pFork, pmD, hres1, hres2, hres4, hres7, hres15, hc8, hc10, h]))).2; omega))) (node_ok (k := 36) (a := v1) (n := 0) (nm := []) (ks := [v2, v4, v15]) (st := st15) (by intro h; exact hm (by simp [pFork, pmD, hres1, hres2, hres4, hres7, hres15, hc8, hc10, h]))).1 (node_ok (k := 36) (a := v1) (n := 0) (nm := []) (ks := [v2, v4, v15]) (st := st15) (by intro h; exact hm (by simp [pFork, pmD, hres1, hres2, hres4, hres7, hres15, hc8, hc10, h]))).2) rfl rfl ?_; rintro _ H18 ⟨v18, st18, x18, hres18, rfl, R18, F18⟩
   obtain ⟨nv18, hA18, hN18⟩ := R18.at_
   have W18 := R18.w; have E18 := R18.e; have FF18 := FF17.trans WS F18; have hal18 := R18.al
   have Q18 := KQ.fr Q17 R18 F18
   refine o_nil ?_
   refine o_asP ?_
   refine o_nilP ?_
   refine w_ret ?_
   change _ ∧ _
   refine ⟨rfl, .int .i64 (v18), (show resultA Try.prog [.tmp 2] _ = _ from tR), ?_⟩
   try dsimp only
   exact ⟨_, st18, x18, by simp [pFork, pmD, hres1, hres2, hres4, hres7, hres15, hres18, hc8, hc10], rfl, (R18.anti (fun z hz => Or.inl hz)), FF18⟩
 ·have hc8 := hB8
  refine w_skip ?_
  refine w_srP ?_
  refine o_mvP ?_
  refine o_mvP ?_
  refine o_mvP ?_
  refine o_stepP ?_
  refine o_cl rfl rfl tS rfl (node_fin ho W0 W7 E7 src sv T tv rb (GK G [v2, v4] y6) st7 x7 hS hT hO R7 (36) (v1) (0) [] [v2, v4] _ ((Q7.kl.si (by have := (node_ok (k := 36) (a := v1) (n := 0) (nm := []) (ks := [v2, v4]) (st := st7) (by intro h; exact hm (by simp [pFork, pmD, hres1, hres2, hres4, hres7, hc8, h]))).2; omega))) (node_ok (k := 36) (a := v1) (n := 0) (nm := []) (ks := [v2, v4]) (st := st7) (by intro h; exact hm (by simp [pFork, pmD, hres1, hres2, hres4, hres7, hc8, h]))).1 (node_ok (k := 36) (a := v1) (n := 0) (nm := []) (ks := [v2, v4]) (st := st7) (by intro h; exact hm (by simp [pFork, pmD, hres1, hres2, hres4, hres7, hc8, h]))).2) rfl rfl ?_; rintro _ H19 ⟨v19, st19, x19, hres19, rfl, R19, F19⟩
  obtain ⟨nv19, hA19, hN19⟩ := R19.at_
  have W19 := R19.w; have E19 := R19.e; have FF19 := FF7.trans WS F19; have hal19 := R19.al
  have Q19 := KQ.fr Q7 R19 F19
  refine o_nil ?_
  refine o_asP ?_
  refine o_nilP ?_
  refine w_ret ?_
  change _ ∧ _
  refine ⟨rfl, .int .i64 (v19), (show resultA Try.prog [.tmp 2] _ = _ from tR), ?_⟩
  try dsimp only
  exact ⟨_, st19, x19, by simp [pFork, pmD, hres1, hres2, hres4, hres7, hres19, hc8], rfl, (R19.anti (fun z hz => Or.inl hz)), FF19⟩
end Go.Proofs.Ytehmhhlhlipbnaa.Vs
