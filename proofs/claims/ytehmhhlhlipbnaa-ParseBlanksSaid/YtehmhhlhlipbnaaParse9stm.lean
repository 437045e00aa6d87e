/-
 The rest of the reader's functions.
-/
import Derived.Test.YtehmhhlhlipbnaaParse8
set_option autoImplicit false
set_option linter.unusedVariables false
set_option linter.unusedSimpArgs false
namespace Go.Proofs.Ytehmhhlhlipbnaa.Vs
open Go.VI Go.Proofs
variable {orc : CallF}
set_option maxRecDepth 100000 in
set_option maxHeartbeats 4000000 in
theorem stm_fin (ho : NoOrcBut [7, 21, 69, 81] orc) {H0 HS : AH} (W0 : Wf H0) (WS : Wf HS) (ES : Ext H0 HS) (ho81 : ∃ sg, ∀ H, orc 81 [] H = some (.ret sg, H)) (tx : Nat → List UInt8) (ho69 : ∀ k : Nat, k < 67 → ∀ H, orc 69 [.int .i64 (k : Int)] H = some (.ret (.str (tx k)), H)) (src : List UInt8) (sv : AV) (T : List TK) (tv : AV) (rb : Nat) (G : LK → Prop) (st : PS) (x : LK) (hS : SB H0 5 src sv) (hT : TS H0 T tv) (hO : TOk src T) (hR : RS H0 sv tv T.length rb G HS st x) (f : Nat) (ih : ∀ g, g ≤ f → IH orc H0 sv tv rb tx src T g) (hm : pStm tx src T (f + 1) st ≠ none) : FinP Try.prog orc 53 [.ptr (.mt (rb)) (0)] HS (fun r H' => OkR H0 sv tv T.length rb G HS x (pStm tx src T (f + 1) st) (AV.int .i64) r H') (fun r H' => BadR H0 rb HS x (pStm tx src T (f + 1) st) r H') := by
 have E0 := ES
 obtain ⟨nv, hA, hN⟩ := hR.at_; have hr0 := hR.r0; have hTl := hO.len; have hal := hR.al; have hSb := hS.bound; have hrbl := WS.lt hA
 refine fin_ofP Try.func53 rfl (by rw [Try.ntmps53]; simp) (ho _ rfl _ _) ?_
 rw [Try.ntmps53]
 refine w_srP ?_
 refine o_asP ?_
 refine o_nilP ?_
 refine w_srP ?_
 refine o_mvP ?_
 refine o_stepP ?_
 refine o_cl rfl rfl tS rfl (place_fin ho W0 WS E0 src sv T tv rb G st x hS hT hO hR) rfl rfl ?_; rintro _ H1 ⟨rfl, X1⟩
 have W1 := X1.wf; have E1 := E0.trans X1
 have hA := X1.keep _ _ hA
 have n1 := X1.n
 refine o_nil ?_
 refine o_asP ?_
 refine o_nilP ?_
 refine w_seq ?_
 refine w_block ?_
 refine w_srP ?_
 refine o_mvP ?_
 refine o_stepP ?_
 refine o_cl rfl rfl tS rfl (got_fin ho W0 W1 E1 ho81 tx ho69 src sv T tv rb G st x hS hT hO (hR.ext X1) [118, 97, 108]) rfl rfl ?_; rintro _ H2 ⟨v2, st2, x2, hres2, rfl, R2, F2⟩
 obtain ⟨nv2, hA2, hN2⟩ := R2.at_
 have W2 := R2.w; have E2 := R2.e; have FF2 := ((Fr2.refl WS).trans WS (Fr2.ofExt X1)).trans WS F2; have hal2 := R2.al
 refine o_nil ?_
 refine o_asP ?_
 refine o_nilP ?_
 refine w_cond tE (fun hB3 => ?_) (fun hB3 => ?_)
 ·have hc3 := hB3
  refine w_srP ?_
  refine o_mvP ?_
  refine o_clP rfl rfl tS rfl (name_ct ho W0 ho81 tx ho69 src sv T tv rb hS hT hO _ W2 E2 G st2 x2 R2 (by intro h; exact hm (by simp [pStm, pmD, hres2, hc3, h]))) rfl rfl (by rintro p H' ⟨ae, hbad, rfl, Wb, Eb, xb, Fb⟩; change _ ∧ _; exact ⟨rfl, ae, by simp [pStm, pmD, hres2, hc3, hbad], rfl, Wb, Eb, xb, FF2.trans WS Fb⟩) ?_; rintro _ H4 ⟨v4, st4, x4, hres4, rfl, R4, F4⟩
  obtain ⟨nv4, hA4, hN4⟩ := R4.at_
  have W4 := R4.w; have E4 := R4.e; have FF4 := FF2.trans WS F4; have hal4 := R4.al
  refine o_asP ?_
  refine o_nilP ?_
  refine w_srP ?_
  refine o_mvP ?_
  refine o_clP rfl rfl tS rfl (want_ct ho W0 ho81 tx ho69 src sv T tv rb hS hT hO [61] _ W4 E4 G st4 x4 R4 (by intro h; exact hm (by simp [pStm, pmD, hres2, hres4, hc3, h]))) rfl rfl (by rintro p H' ⟨ae, hbad, rfl, Wb, Eb, xb, Fb⟩; change _ ∧ _; exact ⟨rfl, ae, by simp [pStm, pmD, hres2, hres4, hc3, hbad], rfl, Wb, Eb, xb, FF4.trans WS Fb⟩) ?_; rintro _ H5 ⟨v5, st5, x5, hres5, rfl, R5, F5⟩
  obtain ⟨nv5, hA5, hN5⟩ := R5.at_
  have W5 := R5.w; have E5 := R5.e; have FF5 := FF4.trans WS F5; have hal5 := R5.al
  refine o_nilP ?_
  refine w_srP ?_
  refine o_mvP ?_
  refine o_mvP ?_
  refine o_mvP ?_
  refine o_mvP ?_
  refine o_clP rfl rfl tS rfl ((ih f (by omega)).expr _ W5 E5 G st5 x5 R5 (by intro h; exact hm (by simp [pStm, pmD, hres2, hres4, hres5, hc3, h]))) rfl rfl (by rintro p H' ⟨ae, hbad, rfl, Wb, Eb, xb, Fb⟩; change _ ∧ _; exact ⟨rfl, ae, by simp [pStm, pmD, hres2, hres4, hres5, hc3, hbad], rfl, Wb, Eb, xb, FF5.trans WS Fb⟩) ?_; rintro _ H6 ⟨v6, st6, x6, hres6, rfl, R6, F6⟩
  obtain ⟨nv6, hA6, hN6⟩ := R6.at_
  have W6 := R6.w; have E6 := R6.e; have FF6 := FF5.trans WS F6; have hal6 := R6.al
  refine o_stepP ?_
  refine o_nw W6 (a_build1 Try.underlying39 Ty.csz3 Ty.zero3 rfl tE rfl (by decide)) rfl rfl rfl (by simp) ?_; intro H7 n7 W7 X7 A7
  have E7 := E6.trans X7
  have Q7 : KQ H0 HS.n sv tv T.length rb G H7 st6 x6 [v6] (freshSl (H6.n) 1 1) (H6.n, none) := KQ.row (vs := [v6]) R6 X7 n7 FF6.n A7 (by simp)
  have hA6 := X7.keep _ _ hA6
  refine o_nil ?_
  refine o_clP rfl rfl tS rfl (ended_fin ho W0 W7 E7 ho81 tx ho69 src sv T tv rb (GK G [v6] (H6.n, none)) st6 x6 hS hT hO Q7.r (31) (plF src T st.a) v4 [v6] ((freshSl (H6.n) 1 1)) Q7.kl (by intro h; exact hm (by simp [pStm, pmD, hres2, hres4, hres5, hres6, hc3, h]))) rfl rfl (by rintro p H' ⟨ae, hbad, rfl, Wb, Eb, xb, Fb⟩; change _ ∧ _; exact ⟨rfl, ae, by simp [pStm, pmD, hres2, hres4, hres5, hres6, hc3, hbad], rfl, Wb, Eb, xb, (FF6.trans WS (Fr2.ofExt X7)).trans WS Fb⟩) ?_; rintro _ H8 ⟨v8, st8, x8, hres8, rfl, R8, F8⟩
  obtain ⟨nv8, hA8, hN8⟩ := R8.at_
  have W8 := R8.w; have E8 := R8.e; have FF8 := (FF6.trans WS (Fr2.ofExt X7)).trans WS F8; have hal8 := R8.al
  have Q8 := KQ.fr Q7 R8 F8
  refine o_asP ?_
  refine o_nilP ?_
  refine w_ret ?_
  change _ ∧ _
  refine ⟨rfl, .int .i64 (v8), (show resultA Try.prog [.tmp 2] _ = _ from tR), ?_⟩
  try dsimp only
  exact ⟨_, st8, x8, by simp [pStm, pmD, hres2, hres4, hres5, hres6, hres8, hc3], rfl, (R8.anti (fun z hz => Or.inl hz)), FF8⟩
 ·have hc3 := hB3
  refine w_srP ?_
  refine o_mvP ?_
  refine o_stepP ?_
  refine o_cl rfl rfl tS rfl (got_fin ho W0 W2 E2 ho81 tx ho69 src sv T tv rb G st2 x2 hS hT hO R2 [118, 97, 114]) rfl rfl ?_; rintro _ H9 ⟨v9, st9, x9, hres9, rfl, R9, F9⟩
  obtain ⟨nv9, hA9, hN9⟩ := R9.at_
  have W9 := R9.w; have E9 := R9.e; have FF9 := FF2.trans WS F9; have hal9 := R9.al
  refine o_nil ?_
  refine o_asP ?_
  refine o_nilP ?_
  refine w_cond tE (fun hB10 => ?_) (fun hB10 => ?_)
  ·have hc10 := hB10
   refine w_srP ?_
   refine o_mvP ?_
   refine o_clP rfl rfl tS rfl (name_ct ho W0 ho81 tx ho69 src sv T tv rb hS hT hO _ W9 E9 G st9 x9 R9 (by intro h; exact hm (by simp [pStm, pmD, hres2, hres9, hc3, hc10, h]))) rfl rfl (by rintro p H' ⟨ae, hbad, rfl, Wb, Eb, xb, Fb⟩; change _ ∧ _; exact ⟨rfl, ae, by simp [pStm, pmD, hres2, hres9, hc3, hc10, hbad], rfl, Wb, Eb, xb, FF9.trans WS Fb⟩) ?_; rintro _ H11 ⟨v11, st11, x11, hres11, rfl, R11, F11⟩
   obtain ⟨nv11, hA11, hN11⟩ := R11.at_
   have W11 := R11.w; have E11 := R11.e; have FF11 := FF9.trans WS F11; have hal11 := R11.al
   refine o_asP ?_
   refine o_nilP ?_
   refine w_srP ?_
   refine o_mvP ?_
   refine o_clP rfl rfl tS rfl (want_ct ho W0 ho81 tx ho69 src sv T tv rb hS hT hO [58] _ W11 E11 G st11 x11 R11 (by intro h; exact hm (by simp [pStm, pmD, hres2, hres9, hres11, hc3, hc10, h]))) rfl rfl (by rintro p H' ⟨ae, hbad, rfl, Wb, Eb, xb, Fb⟩; change _ ∧ _; exact ⟨rfl, ae, by simp [pStm, pmD, hres2, hres9, hres11, hc3, hc10, hbad], rfl, Wb, Eb, xb, FF11.trans WS Fb⟩) ?_; rintro _ H12 ⟨v12, st12, x12, hres12, rfl, R12, F12⟩
   obtain ⟨nv12, hA12, hN12⟩ := R12.at_
   have W12 := R12.w; have E12 := R12.e; have FF12 := FF11.trans WS F12; have hal12 := R12.al
   refine o_nilP ?_
   refine w_srP ?_
   refine o_mvP ?_
   refine o_clP rfl rfl tS rfl ((ih f (by omega)).typ _ W12 E12 G st12 x12 R12 (by intro h; exact hm (by simp [pStm, pmD, hres2, hres9, hres11, hres12, hc3, hc10, h]))) rfl rfl (by rintro p H' ⟨ae, hbad, rfl, Wb, Eb, xb, Fb⟩; change _ ∧ _; exact ⟨rfl, ae, by simp [pStm, pmD, hres2, hres9, hres11, hres12, hc3, hc10, hbad], rfl, Wb, Eb, xb, FF12.trans WS Fb⟩) ?_; rintro _ H13 ⟨v13, st13, x13, hres13, rfl, R13, F13⟩
   obtain ⟨nv13, hA13, hN13⟩ := R13.at_
   have W13 := R13.w; have E13 := R13.e; have FF13 := FF12.trans WS F13; have hal13 := R13.al
   refine o_stepP ?_
   refine o_nw W13 (a_build1 Try.underlying39 Ty.csz3 Ty.zero3 rfl tE rfl (by decide)) rfl rfl rfl (by simp) ?_; intro H14 n14 W14 X14 A14
   have E14 := E13.trans X14
   have Q14 : KQ H0 HS.n sv tv T.length rb G H14 st13 x13 [v13] (freshSl (H13.n) 1 1) (H13.n, none) := KQ.row (vs := [v13]) R13 X14 n14 FF13.n A14 (by simp)
   have hA13 := X14.keep _ _ hA13
   refine o_nil ?_
   refine o_asP ?_
   refine o_nilP ?_
   refine w_seq ?_
   refine w_srP ?_
   refine o_mvP ?_
   refine o_stepP ?_
   refine o_cl rfl rfl tS rfl (got_fin ho W0 W14 E14 ho81 tx ho69 src sv T tv rb (GK G [v13] (H13.n, none)) st13 x13 hS hT hO Q14.r [61]) rfl rfl ?_; rintro _ H15 ⟨v15, st15, x15, hres15, rfl, R15, F15⟩
   obtain ⟨nv15, hA15, hN15⟩ := R15.at_
   have W15 := R15.w; have E15 := R15.e; have FF15 := (FF13.trans WS (Fr2.ofExt X14)).trans WS F15; have hal15 := R15.al
   have Q15 := KQ.fr Q14 R15 F15
   refine o_nil ?_
   refine o_nilP ?_
   refine w_cond tE (fun hB16 => ?_) (fun hB16 => ?_)
   ·have hc16 := hB16
    refine w_regionP ?_
    refine o_mvP ?_
    refine o_mvP ?_
    refine o_clP rfl rfl tS rfl ((ih f (by omega)).expr _ W15 E15 (GK G [v13] (H13.n, none)) st15 x15 R15 (by intro h; exact hm (by simp [pStm, pmD, hres2, hres9, hres11, hres12, hres13, hres15, hc3, hc10, hc16, h]))) rfl rfl (by rintro p H' ⟨ae, hbad, rfl, Wb, Eb, xb, Fb⟩; change _ ∧ _; exact ⟨rfl, ae, by simp [pStm, pmD, hres2, hres9, hres11, hres12, hres13, hres15, hc3, hc10, hc16, hbad], rfl, Wb, Eb, xb, FF15.trans WS Fb⟩) ?_; rintro _ H17 ⟨v17, st17, x17, hres17, rfl, R17, F17⟩
    obtain ⟨nv17, hA17, hN17⟩ := R17.at_
    have W17 := R17.w; have E17 := R17.e; have FF17 := FF15.trans WS F17; have hal17 := R17.al
    have Q17 := KQ.fr Q15 R17 F17
    refine o_stepP ?_
    refine o_nw W17 (a_build1 Try.underlying39 Ty.csz3 Ty.zero3 rfl tE rfl (by decide)) rfl rfl rfl (by simp) ?_; intro H18 n18 W18 X18 A18
    have E18 := E17.trans X18
    have hA17 := X18.keep _ _ hA17
    refine o_nil ?_
    refine o_stepP ?_
    refine o_apK (n0 := HS.n) (vs := [v17]) W0 W18 (Q17.ext X18) (FF17.trans WS (Fr2.ofExt X18)).n ES.n Try.underlying39 Try.underlying39 rfl Ty.csz3 Ty.byt3 Ty.zero3 rfl tE tE (src_fresh (n := 1) A18 rfl) (by simp) (by first | exact Nat.le_of_ble_eq_true rfl | (simp only [List.length_append, List.length_singleton]; omega)) rfl rfl ?_; intro kv19 H19 y19 Q19 A19
    have Q19 : KQ H0 HS.n sv tv T.length rb G H19 st17 x17 [v13, v17] kv19 y19 := Q19
    obtain ⟨nv19, hA19, hN19⟩ := Q19.r.at_
    have W19 := Q19.r.w; have E19 := Q19.r.e; have FF19 := (FF17.trans WS (Fr2.ofExt X18)).app WS (Q17.ext X18) A19
    refine o_nil ?_
    refine o_asP ?_
    refine o_nilP ?_
    refine w_srP ?_
    refine o_mvP ?_
    refine o_mvP ?_
    refine o_mvP ?_
    refine o_mvP ?_
    refine o_clP rfl rfl tS rfl (ended_fin ho W0 W19 E19 ho81 tx ho69 src sv T tv rb (GK G [v13, v17] y19) st17 x17 hS hT hO Q19.r (32) (plF src T st.a) v11 [v13, v17] (kv19) Q19.kl (by intro h; exact hm (by simp [pStm, pmD, hres2, hres9, hres11, hres12, hres13, hres15, hres17, hc3, hc10, hc16, h]))) rfl rfl (by rintro p H' ⟨ae, hbad, rfl, Wb, Eb, xb, Fb⟩; change _ ∧ _; exact ⟨rfl, ae, by simp [pStm, pmD, hres2, hres9, hres11, hres12, hres13, hres15, hres17, hc3, hc10, hc16, hbad], rfl, Wb, Eb, xb, FF19.trans WS Fb⟩) ?_; rintro _ H20 ⟨v20, st20, x20, hres20, rfl, R20, F20⟩
    obtain ⟨nv20, hA20, hN20⟩ := R20.at_
    have W20 := R20.w; have E20 := R20.e; have FF20 := FF19.trans WS F20; have hal20 := R20.al
    have Q20 := KQ.fr Q19 R20 F20
    refine o_asP ?_
    refine o_nilP ?_
    refine w_ret ?_
    change _ ∧ _
    refine ⟨rfl, .int .i64 (v20), (show resultA Try.prog [.tmp 2] _ = _ from tR), ?_⟩
    try dsimp only
    exact ⟨_, st20, x20, by simp [pStm, pmD, hres2, hres9, hres11, hres12, hres13, hres15, hres17, hres20, hc3, hc10, hc16], rfl, (R20.anti (fun z hz => Or.inl hz)), FF20⟩
   ·have hc16 := hB16
    refine w_skip ?_
    refine w_srP ?_
    refine o_mvP ?_
    refine o_mvP ?_
    refine o_mvP ?_
    refine o_mvP ?_
    refine o_clP rfl rfl tS rfl (ended_fin ho W0 W15 E15 ho81 tx ho69 src sv T tv rb (GK G [v13] (H13.n, none)) st15 x15 hS hT hO R15 (32) (plF src T st.a) v11 [v13] ((freshSl (H13.n) 1 1)) Q15.kl (by intro h; exact hm (by simp [pStm, pmD, hres2, hres9, hres11, hres12, hres13, hres15, hc3, hc10, hc16, h]))) rfl rfl (by rintro p H' ⟨ae, hbad, rfl, Wb, Eb, xb, Fb⟩; change _ ∧ _; exact ⟨rfl, ae, by simp [pStm, pmD, hres2, hres9, hres11, hres12, hres13, hres15, hc3, hc10, hc16, hbad], rfl, Wb, Eb, xb, FF15.trans WS Fb⟩) ?_; rintro _ H21 ⟨v21, st21, x21, hres21, rfl, R21, F21⟩
    obtain ⟨nv21, hA21, hN21⟩ := R21.at_
    have W21 := R21.w; have E21 := R21.e; have FF21 := FF15.trans WS F21; have hal21 := R21.al
    have Q21 := KQ.fr Q15 R21 F21
    refine o_asP ?_
    refine o_nilP ?_
    refine w_ret ?_
    change _ ∧ _
    refine ⟨rfl, .int .i64 (v21), (show resultA Try.prog [.tmp 2] _ = _ from tR), ?_⟩
    try dsimp only
    exact ⟨_, st21, x21, by simp [pStm, pmD, hres2, hres9, hres11, hres12, hres13, hres15, hres21, hc3, hc10, hc16], rfl, (R21.anti (fun z hz => Or.inl hz)), FF21⟩
  ·have hc10 := hB10
   refine w_srP ?_
   refine o_mvP ?_
   refine o_stepP ?_
   refine o_cl rfl rfl tS rfl (is_fin ho W0 W9 E9 ho81 tx ho69 src sv T tv rb G st9 x9 hS hT hO R9 [105, 102]) rfl rfl ?_; rintro _ H22 ⟨rfl, X22⟩
   have W22 := X22.wf; have E22 := E9.trans X22
   have hA9 := X22.keep _ _ hA9
   have n22 := X22.n
   refine o_nil ?_
   refine o_asP ?_
   refine o_nilP ?_
   refine w_cond tE (fun hB23 => ?_) (fun hB23 => ?_)
   ·have hc23 := hB23
    refine w_srP ?_
    refine o_mvP ?_
    refine o_clP rfl rfl tS rfl ((ih f (by omega)).fork _ W22 E22 G st9 x9 (R9.ext X22) (by intro h; exact hm (by simp [pStm, pmD, hres2, hres9, hc3, hc10, hc23, h]))) rfl rfl (by rintro p H' ⟨ae, hbad, rfl, Wb, Eb, xb, Fb⟩; change _ ∧ _; exact ⟨rfl, ae, by simp [pStm, pmD, hres2, hres9, hc3, hc10, hc23, hbad], rfl, Wb, Eb, xb, (FF9.trans WS (Fr2.ofExt X22)).trans WS Fb⟩) ?_; rintro _ H24 ⟨v24, st24, x24, hres24, rfl, R24, F24⟩
    obtain ⟨nv24, hA24, hN24⟩ := R24.at_
    have W24 := R24.w; have E24 := R24.e; have FF24 := (FF9.trans WS (Fr2.ofExt X22)).trans WS F24; have hal24 := R24.al
    refine o_asP ?_
    refine o_nilP ?_
    refine w_ret ?_
    change _ ∧ _
    refine ⟨rfl, .int .i64 (v24), (show resultA Try.prog [.tmp 2] _ = _ from tR), ?_⟩
    try dsimp only
    exact ⟨_, st24, x24, by simp [pStm, pmD, hres2, hres9, hres24, hc3, hc10, hc23], rfl, R24, FF24⟩
   ·have hc23 := hB23
    refine w_srP ?_
    refine o_mvP ?_
    refine o_stepP ?_
    refine o_cl rfl rfl tS rfl (got_fin ho W0 W22 E22 ho81 tx ho69 src sv T tv rb G st9 x9 hS hT hO (R9.ext X22) [119, 104, 105, 108, 101]) rfl rfl ?_; rintro _ H25 ⟨v25, st25, x25, hres25, rfl, R25, F25⟩
    obtain ⟨nv25, hA25, hN25⟩ := R25.at_
    have W25 := R25.w; have E25 := R25.e; have FF25 := (FF9.trans WS (Fr2.ofExt X22)).trans WS F25; have hal25 := R25.al
    refine o_nil ?_
    refine o_asP ?_
    refine o_nilP ?_
    refine w_cond tE (fun hB26 => ?_) (fun hB26 => ?_)
    ·have hc26 := hB26
     refine w_srP ?_
     refine o_mvP ?_
     refine o_clP rfl rfl tS rfl ((ih f (by omega)).expr _ W25 E25 G st25 x25 R25 (by intro h; exact hm (by simp [pStm, pmD, hres2, hres9, hres25, hc3, hc10, hc23, hc26, h]))) rfl rfl (by rintro p H' ⟨ae, hbad, rfl, Wb, Eb, xb, Fb⟩; change _ ∧ _; exact ⟨rfl, ae, by simp [pStm, pmD, hres2, hres9, hres25, hc3, hc10, hc23, hc26, hbad], rfl, Wb, Eb, xb, FF25.trans WS Fb⟩) ?_; rintro _ H27 ⟨v27, st27, x27, hres27, rfl, R27, F27⟩
     obtain ⟨nv27, hA27, hN27⟩ := R27.at_
     have W27 := R27.w; have E27 := R27.e; have FF27 := FF25.trans WS F27; have hal27 := R27.al
     refine o_asP ?_
     refine o_nilP ?_
     refine w_srP ?_
     refine o_mvP ?_
     refine o_mvP ?_
     refine o_mvP ?_
     refine o_mvP ?_
     refine o_clP rfl rfl tS rfl ((ih f (by omega)).block _ W27 E27 G st27 x27 R27 (by intro h; exact hm (by simp [pStm, pmD, hres2, hres9, hres25, hres27, hc3, hc10, hc23, hc26, h]))) rfl rfl (by rintro p H' ⟨ae, hbad, rfl, Wb, Eb, xb, Fb⟩; change _ ∧ _; exact ⟨rfl, ae, by simp [pStm, pmD, hres2, hres9, hres25, hres27, hc3, hc10, hc23, hc26, hbad], rfl, Wb, Eb, xb, FF27.trans WS Fb⟩) ?_; rintro _ H28 ⟨v28, st28, x28, hres28, rfl, R28, F28⟩
     obtain ⟨nv28, hA28, hN28⟩ := R28.at_
     have W28 := R28.w; have E28 := R28.e; have FF28 := FF27.trans WS F28; have hal28 := R28.al
     refine o_stepP ?_
     refine o_nw W28 (a_build2 Try.underlying39 Ty.csz3 Ty.zero3 tE tE) rfl rfl rfl (by simp) ?_; intro H29 n29 W29 X29 A29
     have E29 := E28.trans X29
     have hA28 := X29.keep _ _ hA28
     have L29 : SI H29 [v27, v28] (freshSl (H28.n) 2 2) := si_fresh (ks := [v27, v28]) A29 (by simp)
     refine o_nil ?_
     refine o_stepP ?_
     refine o_cl rfl rfl tS rfl (node_fin ho W0 W29 E29 src sv T tv rb G st28 x28 hS hT hO (R28.ext X29) (37) (plF src T st.a) (0) [] [v27, v28] _ (L29) (node_ok (k := 37) (a := plF src T st.a) (n := 0) (nm := []) (ks := [v27, v28]) (st := st28) (by intro h; exact hm (by simp [pStm, pmD, hres2, hres9, hres25, hres27, hres28, hc3, hc10, hc23, hc26, h]))).1 (node_ok (k := 37) (a := plF src T st.a) (n := 0) (nm := []) (ks := [v27, v28]) (st := st28) (by intro h; exact hm (by simp [pStm, pmD, hres2, hres9, hres25, hres27, hres28, hc3, hc10, hc23, hc26, h]))).2) rfl rfl ?_; rintro _ H30 ⟨v30, st30, x30, hres30, rfl, R30, F30⟩
     obtain ⟨nv30, hA30, hN30⟩ := R30.at_
     have W30 := R30.w; have E30 := R30.e; have FF30 := (FF28.trans WS (Fr2.ofExt X29)).trans WS F30; have hal30 := R30.al
     refine o_nil ?_
     refine o_asP ?_
     refine o_nilP ?_
     refine w_ret ?_
     change _ ∧ _
     refine ⟨rfl, .int .i64 (v30), (show resultA Try.prog [.tmp 2] _ = _ from tR), ?_⟩
     try dsimp only
     exact ⟨_, st30, x30, by simp [pStm, pmD, hres2, hres9, hres25, hres27, hres28, hres30, hc3, hc10, hc23, hc26], rfl, R30, FF30⟩
    ·have hc26 := hB26
     refine w_srP ?_
     refine o_mvP ?_
     refine o_stepP ?_
     refine o_cl rfl rfl tS rfl (got_fin ho W0 W25 E25 ho81 tx ho69 src sv T tv rb G st25 x25 hS hT hO R25 [114, 101, 116, 117, 114, 110]) rfl rfl ?_; rintro _ H31 ⟨v31, st31, x31, hres31, rfl, R31, F31⟩
     obtain ⟨nv31, hA31, hN31⟩ := R31.at_
     have W31 := R31.w; have E31 := R31.e; have FF31 := FF25.trans WS F31; have hal31 := R31.al
     refine o_nil ?_
     refine o_asP ?_
     refine o_nilP ?_
     refine w_cond tE (fun hB32 => ?_) (fun hB32 => ?_)
     ·have hc32 := hB32
      refine w_srP ?_
      refine o_asP ?_
      refine o_nilP ?_
      refine w_seq ?_
      refine w_srP ?_
      refine o_mvP ?_
      refine o_stepP ?_
      refine o_cl rfl rfl tS rfl (is_fin ho W0 W31 E31 ho81 tx ho69 src sv T tv rb G st31 x31 hS hT hO R31 [59]) rfl rfl ?_; rintro _ H33 ⟨rfl, X33⟩
      have W33 := X33.wf; have E33 := E31.trans X33
      have hA31 := X33.keep _ _ hA31
      have n33 := X33.n
      refine o_nil ?_
      refine o_rdP (r_not tE) rfl rfl ?_
      refine o_nilP ?_
      refine w_cond tE (fun hB34 => ?_) (fun hB34 => ?_)
      ·have hc34 := (not_t hB34)
       refine w_regionP ?_
       refine o_mvP ?_
       refine o_mvP ?_
       refine o_clP rfl rfl tS rfl ((ih f (by omega)).expr _ W33 E33 G st31 x31 (R31.ext X33) (by intro h; exact hm (by simp [pStm, pmD, hres2, hres9, hres25, hres31, hc3, hc10, hc23, hc26, hc32, hc34, h]))) rfl rfl (by rintro p H' ⟨ae, hbad, rfl, Wb, Eb, xb, Fb⟩; change _ ∧ _; exact ⟨rfl, ae, by simp [pStm, pmD, hres2, hres9, hres25, hres31, hc3, hc10, hc23, hc26, hc32, hc34, hbad], rfl, Wb, Eb, xb, (FF31.trans WS (Fr2.ofExt X33)).trans WS Fb⟩) ?_; rintro _ H35 ⟨v35, st35, x35, hres35, rfl, R35, F35⟩
       obtain ⟨nv35, hA35, hN35⟩ := R35.at_
       have W35 := R35.w; have E35 := R35.e; have FF35 := (FF31.trans WS (Fr2.ofExt X33)).trans WS F35; have hal35 := R35.al
       have QZ36 : KQ H0 HS.n sv tv T.length rb G H35 st35 x35 [] .nils (0, none) := KQ.start R35
       refine o_stepP ?_
       refine o_nw W35 (a_build1 Try.underlying39 Ty.csz3 Ty.zero3 rfl tE rfl (by decide)) rfl rfl rfl (by simp) ?_; intro H37 n37 W37 X37 A37
       have E37 := E35.trans X37
       have hA35 := X37.keep _ _ hA35
       refine o_nil ?_
       refine o_stepP ?_
       refine o_apK (n0 := HS.n) (vs := [v35]) W0 W37 (QZ36.ext X37) (FF35.trans WS (Fr2.ofExt X37)).n ES.n Try.underlying39 Try.underlying39 rfl Ty.csz3 Ty.byt3 Ty.zero3 rfl tE tE (src_fresh (n := 1) A37 rfl) (by simp) (by first | exact Nat.le_of_ble_eq_true rfl | (simp only [List.length_append, List.length_singleton]; omega)) rfl rfl ?_; intro kv38 H38 y38 Q38 A38
       have Q38 : KQ H0 HS.n sv tv T.length rb G H38 st35 x35 [v35] kv38 y38 := Q38
       obtain ⟨nv38, hA38, hN38⟩ := Q38.r.at_
       have W38 := Q38.r.w; have E38 := Q38.r.e; have FF38 := (FF35.trans WS (Fr2.ofExt X37)).app WS (QZ36.ext X37) A38
       refine o_nil ?_
       refine o_asP ?_
       refine o_nilP ?_
       refine w_srP ?_
       refine o_mvP ?_
       refine o_mvP ?_
       refine o_mvP ?_
       refine o_clP rfl rfl tS rfl (ended_fin ho W0 W38 E38 ho81 tx ho69 src sv T tv rb (GK G [v35] y38) st35 x35 hS hT hO Q38.r (38) (plF src T st.a) [] [v35] (kv38) Q38.kl (by intro h; exact hm (by simp [pStm, pmD, hres2, hres9, hres25, hres31, hres35, hc3, hc10, hc23, hc26, hc32, hc34, h]))) rfl rfl (by rintro p H' ⟨ae, hbad, rfl, Wb, Eb, xb, Fb⟩; change _ ∧ _; exact ⟨rfl, ae, by simp [pStm, pmD, hres2, hres9, hres25, hres31, hres35, hc3, hc10, hc23, hc26, hc32, hc34, hbad], rfl, Wb, Eb, xb, FF38.trans WS Fb⟩) ?_; rintro _ H39 ⟨v39, st39, x39, hres39, rfl, R39, F39⟩
       obtain ⟨nv39, hA39, hN39⟩ := R39.at_
       have W39 := R39.w; have E39 := R39.e; have FF39 := FF38.trans WS F39; have hal39 := R39.al
       have Q39 := KQ.fr Q38 R39 F39
       refine o_asP ?_
       refine o_nilP ?_
       refine w_ret ?_
       change _ ∧ _
       refine ⟨rfl, .int .i64 (v39), (show resultA Try.prog [.tmp 2] _ = _ from tR), ?_⟩
       try dsimp only
       exact ⟨_, st39, x39, by simp [pStm, pmD, hres2, hres9, hres25, hres31, hres35, hres39, hc3, hc10, hc23, hc26, hc32, hc34], rfl, (R39.anti (fun z hz => Or.inl hz)), FF39⟩
      ·have hc34 := (not_f hB34)
       refine w_skip ?_
       refine w_srP ?_
       refine o_mvP ?_
       refine o_mvP ?_
       refine o_mvP ?_
       refine o_clP rfl rfl tS rfl (ended_fin ho W0 W33 E33 ho81 tx ho69 src sv T tv rb G st31 x31 hS hT hO (R31.ext X33) (38) (plF src T st.a) [] [] (.nils) (Or.inl ⟨rfl, rfl⟩) (by intro h; exact hm (by simp [pStm, pmD, hres2, hres9, hres25, hres31, hc3, hc10, hc23, hc26, hc32, hc34, h]))) rfl rfl (by rintro p H' ⟨ae, hbad, rfl, Wb, Eb, xb, Fb⟩; change _ ∧ _; exact ⟨rfl, ae, by simp [pStm, pmD, hres2, hres9, hres25, hres31, hc3, hc10, hc23, hc26, hc32, hc34, hbad], rfl, Wb, Eb, xb, (FF31.trans WS (Fr2.ofExt X33)).trans WS Fb⟩) ?_; rintro _ H40 ⟨v40, st40, x40, hres40, rfl, R40, F40⟩
       obtain ⟨nv40, hA40, hN40⟩ := R40.at_
       have W40 := R40.w; have E40 := R40.e; have FF40 := (FF31.trans WS (Fr2.ofExt X33)).trans WS F40; have hal40 := R40.al
       refine o_asP ?_
       refine o_nilP ?_
       refine w_ret ?_
       change _ ∧ _
       refine ⟨rfl, .int .i64 (v40), (show resultA Try.prog [.tmp 2] _ = _ from tR), ?_⟩
       try dsimp only
       exact ⟨_, st40, x40, by simp [pStm, pmD, hres2, hres9, hres25, hres31, hres40, hc3, hc10, hc23, hc26, hc32, hc34], rfl, R40, FF40⟩
     ·have hc32 := hB32
      refine w_srP ?_
      refine o_mvP ?_
      refine o_stepP ?_
      refine o_cl rfl rfl tS rfl (got_fin ho W0 W31 E31 ho81 tx ho69 src sv T tv rb G st31 x31 hS hT hO R31 [98, 101, 103, 105, 110]) rfl rfl ?_; rintro _ H41 ⟨v41, st41, x41, hres41, rfl, R41, F41⟩
      obtain ⟨nv41, hA41, hN41⟩ := R41.at_
      have W41 := R41.w; have E41 := R41.e; have FF41 := FF31.trans WS F41; have hal41 := R41.al
      refine o_nil ?_
      refine o_asP ?_
      refine o_nilP ?_
      refine w_cond tE (fun hB42 => ?_) (fun hB42 => ?_)
      ·have hc42 := hB42
       refine w_srP ?_
       refine o_mvP ?_
       refine o_mvP ?_
       refine o_mvP ?_
       refine o_clP rfl rfl tS rfl ((ih f (by omega)).expr _ W41 E41 G st41 x41 R41 (by intro h; exact hm (by simp [pStm, pmD, hres2, hres9, hres25, hres31, hres41, hc3, hc10, hc23, hc26, hc32, hc42, h]))) rfl rfl (by rintro p H' ⟨ae, hbad, rfl, Wb, Eb, xb, Fb⟩; change _ ∧ _; exact ⟨rfl, ae, by simp [pStm, pmD, hres2, hres9, hres25, hres31, hres41, hc3, hc10, hc23, hc26, hc32, hc42, hbad], rfl, Wb, Eb, xb, FF41.trans WS Fb⟩) ?_; rintro _ H43 ⟨v43, st43, x43, hres43, rfl, R43, F43⟩
       obtain ⟨nv43, hA43, hN43⟩ := R43.at_
       have W43 := R43.w; have E43 := R43.e; have FF43 := FF41.trans WS F43; have hal43 := R43.al
       refine o_stepP ?_
       refine o_nw W43 (a_build1 Try.underlying39 Ty.csz3 Ty.zero3 rfl tE rfl (by decide)) rfl rfl rfl (by simp) ?_; intro H44 n44 W44 X44 A44
       have E44 := E43.trans X44
       have Q44 : KQ H0 HS.n sv tv T.length rb G H44 st43 x43 [v43] (freshSl (H43.n) 1 1) (H43.n, none) := KQ.row (vs := [v43]) R43 X44 n44 FF43.n A44 (by simp)
       have hA43 := X44.keep _ _ hA43
       refine o_nil ?_
       refine o_clP rfl rfl tS rfl (ended_fin ho W0 W44 E44 ho81 tx ho69 src sv T tv rb (GK G [v43] (H43.n, none)) st43 x43 hS hT hO Q44.r (39) (plF src T st.a) [] [v43] ((freshSl (H43.n) 1 1)) Q44.kl (by intro h; exact hm (by simp [pStm, pmD, hres2, hres9, hres25, hres31, hres41, hres43, hc3, hc10, hc23, hc26, hc32, hc42, h]))) rfl rfl (by rintro p H' ⟨ae, hbad, rfl, Wb, Eb, xb, Fb⟩; change _ ∧ _; exact ⟨rfl, ae, by simp [pStm, pmD, hres2, hres9, hres25, hres31, hres41, hres43, hc3, hc10, hc23, hc26, hc32, hc42, hbad], rfl, Wb, Eb, xb, (FF43.trans WS (Fr2.ofExt X44)).trans WS Fb⟩) ?_; rintro _ H45 ⟨v45, st45, x45, hres45, rfl, R45, F45⟩
       obtain ⟨nv45, hA45, hN45⟩ := R45.at_
       have W45 := R45.w; have E45 := R45.e; have FF45 := (FF43.trans WS (Fr2.ofExt X44)).trans WS F45; have hal45 := R45.al
       have Q45 := KQ.fr Q44 R45 F45
       refine o_asP ?_
       refine o_nilP ?_
       refine w_ret ?_
       change _ ∧ _
       refine ⟨rfl, .int .i64 (v45), (show resultA Try.prog [.tmp 2] _ = _ from tR), ?_⟩
       try dsimp only
       exact ⟨_, st45, x45, by simp [pStm, pmD, hres2, hres9, hres25, hres31, hres41, hres43, hres45, hc3, hc10, hc23, hc26, hc32, hc42], rfl, (R45.anti (fun z hz => Or.inl hz)), FF45⟩
      ·have hc42 := hB42
       refine w_srP ?_
       refine o_mvP ?_
       refine o_stepP ?_
       refine o_cl rfl rfl tS rfl (is_fin ho W0 W41 E41 ho81 tx ho69 src sv T tv rb G st41 x41 hS hT hO R41 [115, 101, 108, 101, 99, 116]) rfl rfl ?_; rintro _ H46 ⟨rfl, X46⟩
       have W46 := X46.wf; have E46 := E41.trans X46
       have hA41 := X46.keep _ _ hA41
       have n46 := X46.n
       refine o_nil ?_
       refine o_asP ?_
       refine o_nilP ?_
       refine w_cond tE (fun hB47 => ?_) (fun hB47 => ?_)
       ·have hc47 := hB47
        refine w_srP ?_
        refine o_mvP ?_
        refine o_clP rfl rfl tS rfl ((ih f (by omega)).choice _ W46 E46 G st41 x41 (R41.ext X46) (by intro h; exact hm (by simp [pStm, pmD, hres2, hres9, hres25, hres31, hres41, hc3, hc10, hc23, hc26, hc32, hc42, hc47, h]))) rfl rfl (by rintro p H' ⟨ae, hbad, rfl, Wb, Eb, xb, Fb⟩; change _ ∧ _; exact ⟨rfl, ae, by simp [pStm, pmD, hres2, hres9, hres25, hres31, hres41, hc3, hc10, hc23, hc26, hc32, hc42, hc47, hbad], rfl, Wb, Eb, xb, (FF41.trans WS (Fr2.ofExt X46)).trans WS Fb⟩) ?_; rintro _ H48 ⟨v48, st48, x48, hres48, rfl, R48, F48⟩
        obtain ⟨nv48, hA48, hN48⟩ := R48.at_
        have W48 := R48.w; have E48 := R48.e; have FF48 := (FF41.trans WS (Fr2.ofExt X46)).trans WS F48; have hal48 := R48.al
        refine o_asP ?_
        refine o_nilP ?_
        refine w_ret ?_
        change _ ∧ _
        refine ⟨rfl, .int .i64 (v48), (show resultA Try.prog [.tmp 2] _ = _ from tR), ?_⟩
        try dsimp only
        exact ⟨_, st48, x48, by simp [pStm, pmD, hres2, hres9, hres25, hres31, hres41, hres48, hc3, hc10, hc23, hc26, hc32, hc42, hc47], rfl, R48, FF48⟩
       ·have hc47 := hB47
        refine w_srP ?_
        refine o_mvP ?_
        refine o_stepP ?_
        refine o_cl rfl rfl tS rfl (is_fin ho W0 W46 E46 ho81 tx ho69 src sv T tv rb G st41 x41 hS hT hO (R41.ext X46) [123]) rfl rfl ?_; rintro _ H49 ⟨rfl, X49⟩
        have W49 := X49.wf; have E49 := E46.trans X49
        have hA41 := X49.keep _ _ hA41
        have n49 := X49.n
        refine o_nil ?_
        refine o_asP ?_
        refine o_nilP ?_
        refine w_cond tE (fun hB50 => ?_) (fun hB50 => ?_)
        ·have hc50 := hB50
         refine w_srP ?_
         refine o_mvP ?_
         refine o_clP rfl rfl tS rfl ((ih f (by omega)).block _ W49 E49 G st41 x41 (R41.ext (X46.trans X49)) (by intro h; exact hm (by simp [pStm, pmD, hres2, hres9, hres25, hres31, hres41, hc3, hc10, hc23, hc26, hc32, hc42, hc47, hc50, h]))) rfl rfl (by rintro p H' ⟨ae, hbad, rfl, Wb, Eb, xb, Fb⟩; change _ ∧ _; exact ⟨rfl, ae, by simp [pStm, pmD, hres2, hres9, hres25, hres31, hres41, hc3, hc10, hc23, hc26, hc32, hc42, hc47, hc50, hbad], rfl, Wb, Eb, xb, (FF41.trans WS (Fr2.ofExt (X46.trans X49))).trans WS Fb⟩) ?_; rintro _ H51 ⟨v51, st51, x51, hres51, rfl, R51, F51⟩
         obtain ⟨nv51, hA51, hN51⟩ := R51.at_
         have W51 := R51.w; have E51 := R51.e; have FF51 := (FF41.trans WS (Fr2.ofExt (X46.trans X49))).trans WS F51; have hal51 := R51.al
         refine o_asP ?_
         refine o_nilP ?_
         refine w_ret ?_
         change _ ∧ _
         refine ⟨rfl, .int .i64 (v51), (show resultA Try.prog [.tmp 2] _ = _ from tR), ?_⟩
         try dsimp only
         exact ⟨_, st51, x51, by simp [pStm, pmD, hres2, hres9, hres25, hres31, hres41, hres51, hc3, hc10, hc23, hc26, hc32, hc42, hc47, hc50], rfl, R51, FF51⟩
        ·have hc50 := hB50
         refine w_skip ?_
         refine w_srP ?_
         refine o_mvP ?_
         refine o_clP rfl rfl tS rfl ((ih f (by omega)).expr _ W49 E49 G st41 x41 (R41.ext (X46.trans X49)) (by intro h; exact hm (by simp [pStm, pmD, hres2, hres9, hres25, hres31, hres41, hc3, hc10, hc23, hc26, hc32, hc42, hc47, hc50, h]))) rfl rfl (by rintro p H' ⟨ae, hbad, rfl, Wb, Eb, xb, Fb⟩; change _ ∧ _; exact ⟨rfl, ae, by simp [pStm, pmD, hres2, hres9, hres25, hres31, hres41, hc3, hc10, hc23, hc26, hc32, hc42, hc47, hc50, hbad], rfl, Wb, Eb, xb, (FF41.trans WS (Fr2.ofExt (X46.trans X49))).trans WS Fb⟩) ?_; rintro _ H52 ⟨v52, st52, x52, hres52, rfl, R52, F52⟩
         obtain ⟨nv52, hA52, hN52⟩ := R52.at_
         have W52 := R52.w; have E52 := R52.e; have FF52 := (FF41.trans WS (Fr2.ofExt (X46.trans X49))).trans WS F52; have hal52 := R52.al
         refine o_asP ?_
         refine o_nilP ?_
         refine w_srP ?_
         refine o_mvP ?_
         refine o_stepP ?_
         refine o_cl rfl rfl tS rfl (place_fin ho W0 W52 E52 src sv T tv rb G st52 x52 hS hT hO R52) rfl rfl ?_; rintro _ H53 ⟨rfl, X53⟩
         have W53 := X53.wf; have E53 := E52.trans X53
         have hA52 := X53.keep _ _ hA52
         have n53 := X53.n
         refine o_nil ?_
         refine o_asP ?_
         refine o_nilP ?_
         refine w_seq ?_
         refine w_block ?_
         refine w_srP ?_
         refine o_mvP ?_
         refine o_stepP ?_
         refine o_cl rfl rfl tS rfl (got_fin ho W0 W53 E53 ho81 tx ho69 src sv T tv rb G st52 x52 hS hT hO (R52.ext X53) [61]) rfl rfl ?_; rintro _ H54 ⟨v54, st54, x54, hres54, rfl, R54, F54⟩
         obtain ⟨nv54, hA54, hN54⟩ := R54.at_
         have W54 := R54.w; have E54 := R54.e; have FF54 := (FF52.trans WS (Fr2.ofExt X53)).trans WS F54; have hal54 := R54.al
         refine o_nil ?_
         refine o_asP ?_
         refine o_nilP ?_
         refine w_cond tE (fun hB55 => ?_) (fun hB55 => ?_)
         ·have hc55 := hB55
          refine w_srP ?_
          refine o_mvP ?_
          refine o_mvP ?_
          refine o_mvP ?_
          refine o_mvP ?_
          refine o_clP rfl rfl tS rfl ((ih f (by omega)).expr _ W54 E54 G st54 x54 R54 (by intro h; exact hm (by simp [pStm, pmD, hres2, hres9, hres25, hres31, hres41, hres52, hres54, hc3, hc10, hc23, hc26, hc32, hc42, hc47, hc50, hc55, h]))) rfl rfl (by rintro p H' ⟨ae, hbad, rfl, Wb, Eb, xb, Fb⟩; change _ ∧ _; exact ⟨rfl, ae, by simp [pStm, pmD, hres2, hres9, hres25, hres31, hres41, hres52, hres54, hc3, hc10, hc23, hc26, hc32, hc42, hc47, hc50, hc55, hbad], rfl, Wb, Eb, xb, FF54.trans WS Fb⟩) ?_; rintro _ H56 ⟨v56, st56, x56, hres56, rfl, R56, F56⟩
          obtain ⟨nv56, hA56, hN56⟩ := R56.at_
          have W56 := R56.w; have E56 := R56.e; have FF56 := FF54.trans WS F56; have hal56 := R56.al
          refine o_stepP ?_
          refine o_nw W56 (a_build2 Try.underlying39 Ty.csz3 Ty.zero3 tE tE) rfl rfl rfl (by simp) ?_; intro H57 n57 W57 X57 A57
          have E57 := E56.trans X57
          have Q57 : KQ H0 HS.n sv tv T.length rb G H57 st56 x56 [v52, v56] (freshSl (H56.n) 2 2) (H56.n, none) := KQ.row (vs := [v52, v56]) R56 X57 n57 FF56.n A57 (by simp)
          have hA56 := X57.keep _ _ hA56
          refine o_nil ?_
          refine o_clP rfl rfl tS rfl (ended_fin ho W0 W57 E57 ho81 tx ho69 src sv T tv rb (GK G [v52, v56] (H56.n, none)) st56 x56 hS hT hO Q57.r (33) (plF src T st52.a) [] [v52, v56] ((freshSl (H56.n) 2 2)) Q57.kl (by intro h; exact hm (by simp [pStm, pmD, hres2, hres9, hres25, hres31, hres41, hres52, hres54, hres56, hc3, hc10, hc23, hc26, hc32, hc42, hc47, hc50, hc55, h]))) rfl rfl (by rintro p H' ⟨ae, hbad, rfl, Wb, Eb, xb, Fb⟩; change _ ∧ _; exact ⟨rfl, ae, by simp [pStm, pmD, hres2, hres9, hres25, hres31, hres41, hres52, hres54, hres56, hc3, hc10, hc23, hc26, hc32, hc42, hc47, hc50, hc55, hbad], rfl, Wb, Eb, xb, (FF56.trans WS (Fr2.ofExt X57)).trans WS Fb⟩) ?_; rintro _ H58 ⟨v58, st58, x58, hres58, rfl, R58, F58⟩
          obtain ⟨nv58, hA58, hN58⟩ := R58.at_
          have W58 := R58.w; have E58 := R58.e; have FF58 := (FF56.trans WS (Fr2.ofExt X57)).trans WS F58; have hal58 := R58.al
          have Q58 := KQ.fr Q57 R58 F58
          refine o_asP ?_
          refine o_nilP ?_
          refine w_ret ?_
          change _ ∧ _
          refine ⟨rfl, .int .i64 (v58), (show resultA Try.prog [.tmp 2] _ = _ from tR), ?_⟩
          try dsimp only
          exact ⟨_, st58, x58, by simp [pStm, pmD, hres2, hres9, hres25, hres31, hres41, hres52, hres54, hres56, hres58, hc3, hc10, hc23, hc26, hc32, hc42, hc47, hc50, hc55], rfl, (R58.anti (fun z hz => Or.inl hz)), FF58⟩
         ·have hc55 := hB55
          refine w_srP ?_
          refine o_mvP ?_
          refine o_stepP ?_
          refine o_cl rfl rfl tS rfl (got_fin ho W0 W54 E54 ho81 tx ho69 src sv T tv rb G st54 x54 hS hT hO R54 [60, 45, 61]) rfl rfl ?_; rintro _ H59 ⟨v59, st59, x59, hres59, rfl, R59, F59⟩
          obtain ⟨nv59, hA59, hN59⟩ := R59.at_
          have W59 := R59.w; have E59 := R59.e; have FF59 := FF54.trans WS F59; have hal59 := R59.al
          refine o_nil ?_
          refine o_asP ?_
          refine o_nilP ?_
          refine w_cond tE (fun hB60 => ?_) (fun hB60 => ?_)
          ·have hc60 := hB60
           refine w_srP ?_
           refine o_mvP ?_
           refine o_mvP ?_
           refine o_mvP ?_
           refine o_mvP ?_
           refine o_clP rfl rfl tS rfl ((ih f (by omega)).expr _ W59 E59 G st59 x59 R59 (by intro h; exact hm (by simp [pStm, pmD, hres2, hres9, hres25, hres31, hres41, hres52, hres54, hres59, hc3, hc10, hc23, hc26, hc32, hc42, hc47, hc50, hc55, hc60, h]))) rfl rfl (by rintro p H' ⟨ae, hbad, rfl, Wb, Eb, xb, Fb⟩; change _ ∧ _; exact ⟨rfl, ae, by simp [pStm, pmD, hres2, hres9, hres25, hres31, hres41, hres52, hres54, hres59, hc3, hc10, hc23, hc26, hc32, hc42, hc47, hc50, hc55, hc60, hbad], rfl, Wb, Eb, xb, FF59.trans WS Fb⟩) ?_; rintro _ H61 ⟨v61, st61, x61, hres61, rfl, R61, F61⟩
           obtain ⟨nv61, hA61, hN61⟩ := R61.at_
           have W61 := R61.w; have E61 := R61.e; have FF61 := FF59.trans WS F61; have hal61 := R61.al
           refine o_stepP ?_
           refine o_nw W61 (a_build2 Try.underlying39 Ty.csz3 Ty.zero3 tE tE) rfl rfl rfl (by simp) ?_; intro H62 n62 W62 X62 A62
           have E62 := E61.trans X62
           have Q62 : KQ H0 HS.n sv tv T.length rb G H62 st61 x61 [v52, v61] (freshSl (H61.n) 2 2) (H61.n, none) := KQ.row (vs := [v52, v61]) R61 X62 n62 FF61.n A62 (by simp)
           have hA61 := X62.keep _ _ hA61
           refine o_nil ?_
           refine o_clP rfl rfl tS rfl (ended_fin ho W0 W62 E62 ho81 tx ho69 src sv T tv rb (GK G [v52, v61] (H61.n, none)) st61 x61 hS hT hO Q62.r (34) (plF src T st52.a) [] [v52, v61] ((freshSl (H61.n) 2 2)) Q62.kl (by intro h; exact hm (by simp [pStm, pmD, hres2, hres9, hres25, hres31, hres41, hres52, hres54, hres59, hres61, hc3, hc10, hc23, hc26, hc32, hc42, hc47, hc50, hc55, hc60, h]))) rfl rfl (by rintro p H' ⟨ae, hbad, rfl, Wb, Eb, xb, Fb⟩; change _ ∧ _; exact ⟨rfl, ae, by simp [pStm, pmD, hres2, hres9, hres25, hres31, hres41, hres52, hres54, hres59, hres61, hc3, hc10, hc23, hc26, hc32, hc42, hc47, hc50, hc55, hc60, hbad], rfl, Wb, Eb, xb, (FF61.trans WS (Fr2.ofExt X62)).trans WS Fb⟩) ?_; rintro _ H63 ⟨v63, st63, x63, hres63, rfl, R63, F63⟩
           obtain ⟨nv63, hA63, hN63⟩ := R63.at_
           have W63 := R63.w; have E63 := R63.e; have FF63 := (FF61.trans WS (Fr2.ofExt X62)).trans WS F63; have hal63 := R63.al
           have Q63 := KQ.fr Q62 R63 F63
           refine o_asP ?_
           refine o_nilP ?_
           refine w_ret ?_
           change _ ∧ _
           refine ⟨rfl, .int .i64 (v63), (show resultA Try.prog [.tmp 2] _ = _ from tR), ?_⟩
           try dsimp only
           exact ⟨_, st63, x63, by simp [pStm, pmD, hres2, hres9, hres25, hres31, hres41, hres52, hres54, hres59, hres61, hres63, hc3, hc10, hc23, hc26, hc32, hc42, hc47, hc50, hc55, hc60], rfl, (R63.anti (fun z hz => Or.inl hz)), FF63⟩
          ·have hc60 := hB60
           refine w_skip ?_
           refine w_srP ?_
           refine o_mvP ?_
           refine o_mvP ?_
           refine o_mvP ?_
           refine o_stepP ?_
           refine o_nw W59 (a_build1 Try.underlying39 Ty.csz3 Ty.zero3 rfl tE rfl (by decide)) rfl rfl rfl (by simp) ?_; intro H64 n64 W64 X64 A64
           have E64 := E59.trans X64
           have Q64 : KQ H0 HS.n sv tv T.length rb G H64 st59 x59 [v52] (freshSl (H59.n) 1 1) (H59.n, none) := KQ.row (vs := [v52]) R59 X64 n64 FF59.n A64 (by simp)
           have hA59 := X64.keep _ _ hA59
           refine o_nil ?_
           refine o_clP rfl rfl tS rfl (ended_fin ho W0 W64 E64 ho81 tx ho69 src sv T tv rb (GK G [v52] (H59.n, none)) st59 x59 hS hT hO Q64.r (35) (plF src T st.a) [] [v52] ((freshSl (H59.n) 1 1)) Q64.kl (by intro h; exact hm (by simp [pStm, pmD, hres2, hres9, hres25, hres31, hres41, hres52, hres54, hres59, hc3, hc10, hc23, hc26, hc32, hc42, hc47, hc50, hc55, hc60, h]))) rfl rfl (by rintro p H' ⟨ae, hbad, rfl, Wb, Eb, xb, Fb⟩; change _ ∧ _; exact ⟨rfl, ae, by simp [pStm, pmD, hres2, hres9, hres25, hres31, hres41, hres52, hres54, hres59, hc3, hc10, hc23, hc26, hc32, hc42, hc47, hc50, hc55, hc60, hbad], rfl, Wb, Eb, xb, (FF59.trans WS (Fr2.ofExt X64)).trans WS Fb⟩) ?_; rintro _ H65 ⟨v65, st65, x65, hres65, rfl, R65, F65⟩
           obtain ⟨nv65, hA65, hN65⟩ := R65.at_
           have W65 := R65.w; have E65 := R65.e; have FF65 := (FF59.trans WS (Fr2.ofExt X64)).trans WS F65; have hal65 := R65.al
           have Q65 := KQ.fr Q64 R65 F65
           refine o_asP ?_
           refine o_nilP ?_
           refine w_ret ?_
           change _ ∧ _
           refine ⟨rfl, .int .i64 (v65), (show resultA Try.prog [.tmp 2] _ = _ from tR), ?_⟩
           try dsimp only
           exact ⟨_, st65, x65, by simp [pStm, pmD, hres2, hres9, hres25, hres31, hres41, hres52, hres54, hres59, hres65, hc3, hc10, hc23, hc26, hc32, hc42, hc47, hc50, hc55, hc60], rfl, (R65.anti (fun z hz => Or.inl hz)), FF65⟩
end Go.Proofs.Ytehmhhlhlipbnaa.Vs
