/-
 The rest of the reader's functions.
-/
import Derived.Test.YtehmhhlhlipbnaaParse8
set_option autoImplicit false
set_option linter.unusedVariables false
set_option linter.unusedSimpArgs false
namespace Go.Proofs.Ytehmhhlhlipbnaa.Vs
open Go.VI Go.Proofs
variable {orc : CallF}
set_option maxRecDepth 100000 in
set_option maxHeartbeats 4000000 in
theorem prim_fin (ho : NoOrcBut [7, 21, 69, 81] orc) {H0 HS : AH} (W0 : Wf H0) (WS : Wf HS) (ES : Ext H0 HS) (ho81 : ∃ sg, ∀ H, orc 81 [] H = some (.ret sg, H)) (tx : Nat → List UInt8) (ho69 : ∀ k : Nat, k < 67 → ∀ H, orc 69 [.int .i64 (k : Int)] H = some (.ret (.str (tx k)), H)) (src : List UInt8) (sv : AV) (T : List TK) (tv : AV) (rb : Nat) (G : LK → Prop) (st : PS) (x : LK) (hS : SB H0 5 src sv) (hT : TS H0 T tv) (hO : TOk src T) (hR : RS H0 sv tv T.length rb G HS st x) (f : Nat) (ih : ∀ g, g ≤ f → IH orc H0 sv tv rb tx src T g) (hm : pPrim tx src T (f + 1) st ≠ none) : FinP Try.prog orc 98 [.ptr (.mt (rb)) (0)] HS (fun r H' => OkR H0 sv tv T.length rb G HS x (pPrim tx src T (f + 1) st) (AV.int .i64) r H') (fun r H' => BadR H0 rb HS x (pPrim tx src T (f + 1) st) r H') := by
 have E0 := ES
 obtain ⟨nv, hA, hN⟩ := hR.at_; have hr0 := hR.r0; have hTl := hO.len; have hal := hR.al; have hSb := hS.bound; have hrbl := WS.lt hA
 refine fin_ofP Try.func98 rfl (by rw [Try.ntmps98]; simp) (ho _ rfl _ _) ?_
 rw [Try.ntmps98]
 refine w_srP ?_
 refine o_asP ?_
 refine o_nilP ?_
 refine w_srP ?_
 refine o_mvP ?_
 refine o_stepP ?_
 refine o_cl rfl rfl tS rfl (place_fin ho W0 WS E0 src sv T tv rb G st x hS hT hO hR) rfl rfl ?_; rintro _ H1 ⟨rfl, X1⟩
 have W1 := X1.wf; have E1 := E0.trans X1
 have hA := X1.keep _ _ hA
 have n1 := X1.n
 refine o_nil ?_
 refine o_asP ?_
 refine o_nilP ?_
 refine w_seq ?_
 refine w_block ?_
 refine w_srP ?_
 refine o_mvP ?_
 refine o_stepP ?_
 refine o_cl rfl rfl tS rfl (knd_fin ho W0 W1 E1 src sv T tv rb G st x hS hT hO (hR.ext X1)) rfl rfl ?_; rintro _ H2 ⟨rfl, X2⟩
 have W2 := X2.wf; have E2 := E1.trans X2
 have hA := X2.keep _ _ hA
 have n2 := X2.n
 refine o_nil ?_
 refine o_rdP (r_eq (a := knF T st.a) (b := 2) tE tE) rfl rfl ?_
 refine o_asP ?_
 refine o_nilP ?_
 refine w_cond tE (fun hB3 => ?_) (fun hB3 => ?_)
 ·have hc3 := dec_t hB3
  refine w_srP ?_
  refine o_mvP ?_
  refine o_mvP ?_
  refine o_mvP ?_
  refine o_clP rfl rfl tS rfl (num_ct ho W0 ho81 tx ho69 src sv T tv rb hS hT hO _ W2 E2 G st x (hR.ext (X1.trans X2)) (by intro h; exact hm (by simp [pPrim, pmD, hc3, h]))) rfl rfl (by rintro p H' ⟨ae, hbad, rfl, Wb, Eb, xb, Fb⟩; change _ ∧ _; exact ⟨rfl, ae, by simp [pPrim, pmD, hc3, hbad], rfl, Wb, Eb, xb, ((Fr2.refl WS).trans WS (Fr2.ofExt (X1.trans X2))).trans WS Fb⟩) ?_; rintro _ H4 ⟨v4, st4, x4, hres4, rfl, R4, F4⟩
  obtain ⟨nv4, hA4, hN4⟩ := R4.at_
  have W4 := R4.w; have E4 := R4.e; have FF4 := ((Fr2.refl WS).trans WS (Fr2.ofExt (X1.trans X2))).trans WS F4; have hal4 := R4.al
  refine o_stepP ?_
  refine o_cl rfl rfl tS rfl (node_fin ho W0 W4 E4 src sv T tv rb G st4 x4 hS hT hO R4 (11) (plF src T st.a) (v4) [] [] _ (.nil) (node_ok (k := 11) (a := plF src T st.a) (n := v4) (nm := []) (ks := []) (st := st4) (by intro h; exact hm (by simp [pPrim, pmD, hres4, hc3, h]))).1 (node_ok (k := 11) (a := plF src T st.a) (n := v4) (nm := []) (ks := []) (st := st4) (by intro h; exact hm (by simp [pPrim, pmD, hres4, hc3, h]))).2) rfl rfl ?_; rintro _ H5 ⟨v5, st5, x5, hres5, rfl, R5, F5⟩
  obtain ⟨nv5, hA5, hN5⟩ := R5.at_
  have W5 := R5.w; have E5 := R5.e; have FF5 := FF4.trans WS F5; have hal5 := R5.al
  refine o_nil ?_
  refine o_asP ?_
  refine o_nilP ?_
  refine w_ret ?_
  change _ ∧ _
  refine ⟨rfl, .int .i64 (v5), (show resultA Try.prog [.tmp 2] _ = _ from tR), ?_⟩
  try dsimp only
  exact ⟨_, st5, x5, by simp [pPrim, pmD, hres4, hres5, hc3], rfl, R5, FF5⟩
 ·have hc3 := dec_f hB3
  refine w_srP ?_
  refine o_mvP ?_
  refine o_stepP ?_
  refine o_cl rfl rfl tS rfl (knd_fin ho W0 W2 E2 src sv T tv rb G st x hS hT hO (hR.ext (X1.trans X2))) rfl rfl ?_; rintro _ H6 ⟨rfl, X6⟩
  have W6 := X6.wf; have E6 := E2.trans X6
  have hA := X6.keep _ _ hA
  have n6 := X6.n
  refine o_nil ?_
  refine o_rdP (r_eq (a := knF T st.a) (b := 1) tE tE) rfl rfl ?_
  refine o_asP ?_
  refine o_nilP ?_
  refine w_cond tE (fun hB7 => ?_) (fun hB7 => ?_)
  ·have hc7 := dec_t hB7
   refine w_srP ?_
   refine o_mvP ?_
   refine o_mvP ?_
   refine o_mvP ?_
   refine o_clP rfl rfl tS rfl (name_ct ho W0 ho81 tx ho69 src sv T tv rb hS hT hO _ W6 E6 G st x (hR.ext ((X1.trans X2).trans X6)) (by intro h; exact hm (by simp [pPrim, pmD, hc3, hc7, h]))) rfl rfl (by rintro p H' ⟨ae, hbad, rfl, Wb, Eb, xb, Fb⟩; change _ ∧ _; exact ⟨rfl, ae, by simp [pPrim, pmD, hc3, hc7, hbad], rfl, Wb, Eb, xb, ((Fr2.refl WS).trans WS (Fr2.ofExt ((X1.trans X2).trans X6))).trans WS Fb⟩) ?_; rintro _ H8 ⟨v8, st8, x8, hres8, rfl, R8, F8⟩
   obtain ⟨nv8, hA8, hN8⟩ := R8.at_
   have W8 := R8.w; have E8 := R8.e; have FF8 := ((Fr2.refl WS).trans WS (Fr2.ofExt ((X1.trans X2).trans X6))).trans WS F8; have hal8 := R8.al
   refine o_stepP ?_
   refine o_cl rfl rfl tS rfl (node_fin ho W0 W8 E8 src sv T tv rb G st8 x8 hS hT hO R8 (13) (plF src T st.a) (0) v8 [] _ (.nil) (node_ok (k := 13) (a := plF src T st.a) (n := 0) (nm := v8) (ks := []) (st := st8) (by intro h; exact hm (by simp [pPrim, pmD, hres8, hc3, hc7, h]))).1 (node_ok (k := 13) (a := plF src T st.a) (n := 0) (nm := v8) (ks := []) (st := st8) (by intro h; exact hm (by simp [pPrim, pmD, hres8, hc3, hc7, h]))).2) rfl rfl ?_; rintro _ H9 ⟨v9, st9, x9, hres9, rfl, R9, F9⟩
   obtain ⟨nv9, hA9, hN9⟩ := R9.at_
   have W9 := R9.w; have E9 := R9.e; have FF9 := FF8.trans WS F9; have hal9 := R9.al
   refine o_nil ?_
   refine o_asP ?_
   refine o_nilP ?_
   refine w_ret ?_
   change _ ∧ _
   refine ⟨rfl, .int .i64 (v9), (show resultA Try.prog [.tmp 2] _ = _ from tR), ?_⟩
   try dsimp only
   exact ⟨_, st9, x9, by simp [pPrim, pmD, hres8, hres9, hc3, hc7], rfl, R9, FF9⟩
  ·have hc7 := dec_f hB7
   refine w_srP ?_
   refine o_mvP ?_
   refine o_stepP ?_
   refine o_cl rfl rfl tS rfl (got_fin ho W0 W6 E6 ho81 tx ho69 src sv T tv rb G st x hS hT hO (hR.ext ((X1.trans X2).trans X6)) [116, 114, 117, 101]) rfl rfl ?_; rintro _ H10 ⟨v10, st10, x10, hres10, rfl, R10, F10⟩
   obtain ⟨nv10, hA10, hN10⟩ := R10.at_
   have W10 := R10.w; have E10 := R10.e; have FF10 := ((Fr2.refl WS).trans WS (Fr2.ofExt ((X1.trans X2).trans X6))).trans WS F10; have hal10 := R10.al
   refine o_nil ?_
   refine o_asP ?_
   refine o_nilP ?_
   refine w_cond tE (fun hB11 => ?_) (fun hB11 => ?_)
   ·have hc11 := hB11
    refine w_srP ?_
    refine o_mvP ?_
    refine o_mvP ?_
    refine o_stepP ?_
    refine o_cl rfl rfl tS rfl (node_fin ho W0 W10 E10 src sv T tv rb G st10 x10 hS hT hO R10 (12) (plF src T st.a) (1) [] [] _ (.nil) (node_ok (k := 12) (a := plF src T st.a) (n := 1) (nm := []) (ks := []) (st := st10) (by intro h; exact hm (by simp [pPrim, pmD, hres10, hc3, hc7, hc11, h]))).1 (node_ok (k := 12) (a := plF src T st.a) (n := 1) (nm := []) (ks := []) (st := st10) (by intro h; exact hm (by simp [pPrim, pmD, hres10, hc3, hc7, hc11, h]))).2) rfl rfl ?_; rintro _ H12 ⟨v12, st12, x12, hres12, rfl, R12, F12⟩
    obtain ⟨nv12, hA12, hN12⟩ := R12.at_
    have W12 := R12.w; have E12 := R12.e; have FF12 := FF10.trans WS F12; have hal12 := R12.al
    refine o_nil ?_
    refine o_asP ?_
    refine o_nilP ?_
    refine w_ret ?_
    change _ ∧ _
    refine ⟨rfl, .int .i64 (v12), (show resultA Try.prog [.tmp 2] _ = _ from tR), ?_⟩
    try dsimp only
    exact ⟨_, st12, x12, by simp [pPrim, pmD, hres10, hres12, hc3, hc7, hc11], rfl, R12, FF12⟩
   ·have hc11 := hB11
    refine w_srP ?_
    refine o_mvP ?_
    refine o_stepP ?_
    refine o_cl rfl rfl tS rfl (got_fin ho W0 W10 E10 ho81 tx ho69 src sv T tv rb G st10 x10 hS hT hO R10 [102, 97, 108, 115, 101]) rfl rfl ?_; rintro _ H13 ⟨v13, st13, x13, hres13, rfl, R13, F13⟩
    obtain ⟨nv13, hA13, hN13⟩ := R13.at_
    have W13 := R13.w; have E13 := R13.e; have FF13 := FF10.trans WS F13; have hal13 := R13.al
    refine o_nil ?_
    refine o_asP ?_
    refine o_nilP ?_
    refine w_cond tE (fun hB14 => ?_) (fun hB14 => ?_)
    ·have hc14 := hB14
     refine w_srP ?_
     refine o_mvP ?_
     refine o_mvP ?_
     refine o_stepP ?_
     refine o_cl rfl rfl tS rfl (node_fin ho W0 W13 E13 src sv T tv rb G st13 x13 hS hT hO R13 (12) (plF src T st.a) (0) [] [] _ (.nil) (node_ok (k := 12) (a := plF src T st.a) (n := 0) (nm := []) (ks := []) (st := st13) (by intro h; exact hm (by simp [pPrim, pmD, hres10, hres13, hc3, hc7, hc11, hc14, h]))).1 (node_ok (k := 12) (a := plF src T st.a) (n := 0) (nm := []) (ks := []) (st := st13) (by intro h; exact hm (by simp [pPrim, pmD, hres10, hres13, hc3, hc7, hc11, hc14, h]))).2) rfl rfl ?_; rintro _ H15 ⟨v15, st15, x15, hres15, rfl, R15, F15⟩
     obtain ⟨nv15, hA15, hN15⟩ := R15.at_
     have W15 := R15.w; have E15 := R15.e; have FF15 := FF13.trans WS F15; have hal15 := R15.al
     refine o_nil ?_
     refine o_asP ?_
     refine o_nilP ?_
     refine w_ret ?_
     change _ ∧ _
     refine ⟨rfl, .int .i64 (v15), (show resultA Try.prog [.tmp 2] _ = _ from tR), ?_⟩
     try dsimp only
     exact ⟨_, st15, x15, by simp [pPrim, pmD, hres10, hres13, hres15, hc3, hc7, hc11, hc14], rfl, R15, FF15⟩
    ·have hc14 := hB14
     refine w_srP ?_
     refine o_mvP ?_
     refine o_stepP ?_
     refine o_cl rfl rfl tS rfl (got_fin ho W0 W13 E13 ho81 tx ho69 src sv T tv rb G st13 x13 hS hT hO R13 [40]) rfl rfl ?_; rintro _ H16 ⟨v16, st16, x16, hres16, rfl, R16, F16⟩
     obtain ⟨nv16, hA16, hN16⟩ := R16.at_
     have W16 := R16.w; have E16 := R16.e; have FF16 := FF13.trans WS F16; have hal16 := R16.al
     refine o_nil ?_
     refine o_asP ?_
     refine o_nilP ?_
     refine w_cond tE (fun hB17 => ?_) (fun hB17 => ?_)
     ·have hc17 := hB17
      refine w_srP ?_
      refine o_mvP ?_
      refine o_clP rfl rfl tS rfl ((ih f (by omega)).list [41] _ W16 E16 G st16 x16 R16 (by intro h; exact hm (by simp [pPrim, pmD, hres10, hres13, hres16, hc3, hc7, hc11, hc14, hc17, h]))) rfl rfl (by rintro p H' ⟨ae, hbad, rfl, Wb, Eb, xb, Fb⟩; change _ ∧ _; exact ⟨rfl, ae, by simp [pPrim, pmD, hres10, hres13, hres16, hc3, hc7, hc11, hc14, hc17, hbad], rfl, Wb, Eb, xb, FF16.trans WS Fb⟩) ?_; rintro kv18 H18 ⟨ks18, st18, x18, y18, hres18, O18, hk18, hk218, hy18, hg18, RL18, F18⟩
      have R18 := RL18.anti (G := G) (fun z hz => Or.inl hz)
      have Q18 := KQ.ofL R16 O18 hk18 hy18 hg18 RL18 FF16.n
      obtain ⟨nv18, hA18, hN18⟩ := R18.at_
      have W18 := R18.w; have E18 := R18.e; have FF18 := FF16.trans WS F18; have hal18 := R18.al
      refine o_asP ?_
      refine o_nilP ?_
      refine w_seq ?_
      refine w_srP ?_
      refine o_mvP ?_
      refine o_rdP (r_len (n := ks18.length) Try.underlying39 tE Q18.lenOf) rfl rfl ?_
      refine o_rdP (r_eq (a := ((ks18.length : Nat) : Int)) (b := 1) tE tE) rfl rfl ?_
      refine o_nilP ?_
      refine w_cond tE (fun hB19 => ?_) (fun hB19 => ?_)
      ·have hc19 := dec_t hB19
       refine w_srP ?_
       refine o_mvP ?_
       refine o_mvP ?_
       refine o_mvP ?_
       refine o_stepP ?_
       refine o_cl rfl rfl tS rfl (node_fin ho W0 W18 E18 src sv T tv rb (GK G ks18 y18) st18 x18 hS hT hO Q18.r (14) (plF src T st.a) (0) [] ks18 _ ((Q18.kl.si (by have := (node_ok (k := 14) (a := plF src T st.a) (n := 0) (nm := []) (ks := ks18) (st := st18) (by intro h; exact hm (by simp [pPrim, pmD, hres10, hres13, hres16, hres18, hc3, hc7, hc11, hc14, hc17, hc19, h]))).2; omega))) (node_ok (k := 14) (a := plF src T st.a) (n := 0) (nm := []) (ks := ks18) (st := st18) (by intro h; exact hm (by simp [pPrim, pmD, hres10, hres13, hres16, hres18, hc3, hc7, hc11, hc14, hc17, hc19, h]))).1 (node_ok (k := 14) (a := plF src T st.a) (n := 0) (nm := []) (ks := ks18) (st := st18) (by intro h; exact hm (by simp [pPrim, pmD, hres10, hres13, hres16, hres18, hc3, hc7, hc11, hc14, hc17, hc19, h]))).2) rfl rfl ?_; rintro _ H20 ⟨v20, st20, x20, hres20, rfl, R20, F20⟩
       obtain ⟨nv20, hA20, hN20⟩ := R20.at_
       have W20 := R20.w; have E20 := R20.e; have FF20 := FF18.trans WS F20; have hal20 := R20.al
       have Q20 := KQ.fr Q18 R20 F20
       refine o_nil ?_
       refine o_asP ?_
       refine o_nilP ?_
       refine w_ret ?_
       change _ ∧ _
       refine ⟨rfl, .int .i64 (v20), (show resultA Try.prog [.tmp 2] _ = _ from tR), ?_⟩
       try dsimp only
       exact ⟨_, st20, x20, by simp [pPrim, pmD, hres10, hres13, hres16, hres18, hres20, hc3, hc7, hc11, hc14, hc17, hc19], rfl, (R20.anti (fun z hz => Or.inl hz)), FF20⟩
      ·have hc19 := dec_f hB19
       refine w_skip ?_
       refine w_srP ?_
       refine o_mvP ?_
       refine o_mvP ?_
       refine o_mvP ?_
       refine o_stepP ?_
       refine o_cl rfl rfl tS rfl (node_fin ho W0 W18 E18 src sv T tv rb (GK G ks18 y18) st18 x18 hS hT hO Q18.r (15) (plF src T st.a) (0) [] ks18 _ ((Q18.kl.si (by have := (node_ok (k := 15) (a := plF src T st.a) (n := 0) (nm := []) (ks := ks18) (st := st18) (by intro h; exact hm (by simp [pPrim, pmD, hres10, hres13, hres16, hres18, hc3, hc7, hc11, hc14, hc17, hc19, h]))).2; omega))) (node_ok (k := 15) (a := plF src T st.a) (n := 0) (nm := []) (ks := ks18) (st := st18) (by intro h; exact hm (by simp [pPrim, pmD, hres10, hres13, hres16, hres18, hc3, hc7, hc11, hc14, hc17, hc19, h]))).1 (node_ok (k := 15) (a := plF src T st.a) (n := 0) (nm := []) (ks := ks18) (st := st18) (by intro h; exact hm (by simp [pPrim, pmD, hres10, hres13, hres16, hres18, hc3, hc7, hc11, hc14, hc17, hc19, h]))).2) rfl rfl ?_; rintro _ H21 ⟨v21, st21, x21, hres21, rfl, R21, F21⟩
       obtain ⟨nv21, hA21, hN21⟩ := R21.at_
       have W21 := R21.w; have E21 := R21.e; have FF21 := FF18.trans WS F21; have hal21 := R21.al
       have Q21 := KQ.fr Q18 R21 F21
       refine o_nil ?_
       refine o_asP ?_
       refine o_nilP ?_
       refine w_ret ?_
       change _ ∧ _
       refine ⟨rfl, .int .i64 (v21), (show resultA Try.prog [.tmp 2] _ = _ from tR), ?_⟩
       try dsimp only
       exact ⟨_, st21, x21, by simp [pPrim, pmD, hres10, hres13, hres16, hres18, hres21, hc3, hc7, hc11, hc14, hc17, hc19], rfl, (R21.anti (fun z hz => Or.inl hz)), FF21⟩
     ·have hc17 := hB17
      refine w_srP ?_
      refine o_mvP ?_
      refine o_stepP ?_
      refine o_cl rfl rfl tS rfl (got_fin ho W0 W16 E16 ho81 tx ho69 src sv T tv rb G st16 x16 hS hT hO R16 [91]) rfl rfl ?_; rintro _ H22 ⟨v22, st22, x22, hres22, rfl, R22, F22⟩
      obtain ⟨nv22, hA22, hN22⟩ := R22.at_
      have W22 := R22.w; have E22 := R22.e; have FF22 := FF16.trans WS F22; have hal22 := R22.al
      refine o_nil ?_
      refine o_asP ?_
      refine o_nilP ?_
      refine w_cond tE (fun hB23 => ?_) (fun hB23 => ?_)
      ·have hc23 := hB23
       refine w_srP ?_
       refine o_mvP ?_
       refine o_mvP ?_
       refine o_mvP ?_
       refine o_clP rfl rfl tS rfl ((ih f (by omega)).list [93] _ W22 E22 G st22 x22 R22 (by intro h; exact hm (by simp [pPrim, pmD, hres10, hres13, hres16, hres22, hc3, hc7, hc11, hc14, hc17, hc23, h]))) rfl rfl (by rintro p H' ⟨ae, hbad, rfl, Wb, Eb, xb, Fb⟩; change _ ∧ _; exact ⟨rfl, ae, by simp [pPrim, pmD, hres10, hres13, hres16, hres22, hc3, hc7, hc11, hc14, hc17, hc23, hbad], rfl, Wb, Eb, xb, FF22.trans WS Fb⟩) ?_; rintro kv24 H24 ⟨ks24, st24, x24, y24, hres24, O24, hk24, hk224, hy24, hg24, RL24, F24⟩
       have R24 := RL24.anti (G := G) (fun z hz => Or.inl hz)
       have Q24 := KQ.ofL R22 O24 hk24 hy24 hg24 RL24 FF22.n
       obtain ⟨nv24, hA24, hN24⟩ := R24.at_
       have W24 := R24.w; have E24 := R24.e; have FF24 := FF22.trans WS F24; have hal24 := R24.al
       refine o_stepP ?_
       refine o_cl rfl rfl tS rfl (node_fin ho W0 W24 E24 src sv T tv rb (GK G ks24 y24) st24 x24 hS hT hO Q24.r (16) (plF src T st.a) (0) [] ks24 _ ((Q24.kl.si (by have := (node_ok (k := 16) (a := plF src T st.a) (n := 0) (nm := []) (ks := ks24) (st := st24) (by intro h; exact hm (by simp [pPrim, pmD, hres10, hres13, hres16, hres22, hres24, hc3, hc7, hc11, hc14, hc17, hc23, h]))).2; omega))) (node_ok (k := 16) (a := plF src T st.a) (n := 0) (nm := []) (ks := ks24) (st := st24) (by intro h; exact hm (by simp [pPrim, pmD, hres10, hres13, hres16, hres22, hres24, hc3, hc7, hc11, hc14, hc17, hc23, h]))).1 (node_ok (k := 16) (a := plF src T st.a) (n := 0) (nm := []) (ks := ks24) (st := st24) (by intro h; exact hm (by simp [pPrim, pmD, hres10, hres13, hres16, hres22, hres24, hc3, hc7, hc11, hc14, hc17, hc23, h]))).2) rfl rfl ?_; rintro _ H25 ⟨v25, st25, x25, hres25, rfl, R25, F25⟩
       obtain ⟨nv25, hA25, hN25⟩ := R25.at_
       have W25 := R25.w; have E25 := R25.e; have FF25 := FF24.trans WS F25; have hal25 := R25.al
       have Q25 := KQ.fr Q24 R25 F25
       refine o_nil ?_
       refine o_asP ?_
       refine o_nilP ?_
       refine w_ret ?_
       change _ ∧ _
       refine ⟨rfl, .int .i64 (v25), (show resultA Try.prog [.tmp 2] _ = _ from tR), ?_⟩
       try dsimp only
       exact ⟨_, st25, x25, by simp [pPrim, pmD, hres10, hres13, hres16, hres22, hres24, hres25, hc3, hc7, hc11, hc14, hc17, hc23], rfl, (R25.anti (fun z hz => Or.inl hz)), FF25⟩
      ·have hc23 := hB23
       refine w_srP ?_
       refine o_mvP ?_
       refine o_stepP ?_
       refine o_cl rfl rfl tS rfl (got_fin ho W0 W22 E22 ho81 tx ho69 src sv T tv rb G st22 x22 hS hT hO R22 [102, 105, 108, 108]) rfl rfl ?_; rintro _ H26 ⟨v26, st26, x26, hres26, rfl, R26, F26⟩
       obtain ⟨nv26, hA26, hN26⟩ := R26.at_
       have W26 := R26.w; have E26 := R26.e; have FF26 := FF22.trans WS F26; have hal26 := R26.al
       refine o_nil ?_
       refine o_asP ?_
       refine o_nilP ?_
       refine w_cond tE (fun hB27 => ?_) (fun hB27 => ?_)
       ·have hc27 := hB27
        refine w_srP ?_
        refine o_mvP ?_
        refine o_clP rfl rfl tS rfl (want_ct ho W0 ho81 tx ho69 src sv T tv rb hS hT hO [40] _ W26 E26 G st26 x26 R26 (by intro h; exact hm (by simp [pPrim, pmD, hres10, hres13, hres16, hres22, hres26, hc3, hc7, hc11, hc14, hc17, hc23, hc27, h]))) rfl rfl (by rintro p H' ⟨ae, hbad, rfl, Wb, Eb, xb, Fb⟩; change _ ∧ _; exact ⟨rfl, ae, by simp [pPrim, pmD, hres10, hres13, hres16, hres22, hres26, hc3, hc7, hc11, hc14, hc17, hc23, hc27, hbad], rfl, Wb, Eb, xb, FF26.trans WS Fb⟩) ?_; rintro _ H28 ⟨v28, st28, x28, hres28, rfl, R28, F28⟩
        obtain ⟨nv28, hA28, hN28⟩ := R28.at_
        have W28 := R28.w; have E28 := R28.e; have FF28 := FF26.trans WS F28; have hal28 := R28.al
        refine o_nilP ?_
        refine w_srP ?_
        refine o_mvP ?_
        refine o_clP rfl rfl tS rfl ((ih f (by omega)).expr _ W28 E28 G st28 x28 R28 (by intro h; exact hm (by simp [pPrim, pmD, hres10, hres13, hres16, hres22, hres26, hres28, hc3, hc7, hc11, hc14, hc17, hc23, hc27, h]))) rfl rfl (by rintro p H' ⟨ae, hbad, rfl, Wb, Eb, xb, Fb⟩; change _ ∧ _; exact ⟨rfl, ae, by simp [pPrim, pmD, hres10, hres13, hres16, hres22, hres26, hres28, hc3, hc7, hc11, hc14, hc17, hc23, hc27, hbad], rfl, Wb, Eb, xb, FF28.trans WS Fb⟩) ?_; rintro _ H29 ⟨v29, st29, x29, hres29, rfl, R29, F29⟩
        obtain ⟨nv29, hA29, hN29⟩ := R29.at_
        have W29 := R29.w; have E29 := R29.e; have FF29 := FF28.trans WS F29; have hal29 := R29.al
        refine o_asP ?_
        refine o_nilP ?_
        refine w_srP ?_
        refine o_mvP ?_
        refine o_clP rfl rfl tS rfl (want_ct ho W0 ho81 tx ho69 src sv T tv rb hS hT hO [44] _ W29 E29 G st29 x29 R29 (by intro h; exact hm (by simp [pPrim, pmD, hres10, hres13, hres16, hres22, hres26, hres28, hres29, hc3, hc7, hc11, hc14, hc17, hc23, hc27, h]))) rfl rfl (by rintro p H' ⟨ae, hbad, rfl, Wb, Eb, xb, Fb⟩; change _ ∧ _; exact ⟨rfl, ae, by simp [pPrim, pmD, hres10, hres13, hres16, hres22, hres26, hres28, hres29, hc3, hc7, hc11, hc14, hc17, hc23, hc27, hbad], rfl, Wb, Eb, xb, FF29.trans WS Fb⟩) ?_; rintro _ H30 ⟨v30, st30, x30, hres30, rfl, R30, F30⟩
        obtain ⟨nv30, hA30, hN30⟩ := R30.at_
        have W30 := R30.w; have E30 := R30.e; have FF30 := FF29.trans WS F30; have hal30 := R30.al
        refine o_nilP ?_
        refine w_srP ?_
        refine o_mvP ?_
        refine o_clP rfl rfl tS rfl ((ih f (by omega)).expr _ W30 E30 G st30 x30 R30 (by intro h; exact hm (by simp [pPrim, pmD, hres10, hres13, hres16, hres22, hres26, hres28, hres29, hres30, hc3, hc7, hc11, hc14, hc17, hc23, hc27, h]))) rfl rfl (by rintro p H' ⟨ae, hbad, rfl, Wb, Eb, xb, Fb⟩; change _ ∧ _; exact ⟨rfl, ae, by simp [pPrim, pmD, hres10, hres13, hres16, hres22, hres26, hres28, hres29, hres30, hc3, hc7, hc11, hc14, hc17, hc23, hc27, hbad], rfl, Wb, Eb, xb, FF30.trans WS Fb⟩) ?_; rintro _ H31 ⟨v31, st31, x31, hres31, rfl, R31, F31⟩
        obtain ⟨nv31, hA31, hN31⟩ := R31.at_
        have W31 := R31.w; have E31 := R31.e; have FF31 := FF30.trans WS F31; have hal31 := R31.al
        refine o_asP ?_
        refine o_nilP ?_
        refine w_srP ?_
        refine o_mvP ?_
        refine o_clP rfl rfl tS rfl (want_ct ho W0 ho81 tx ho69 src sv T tv rb hS hT hO [41] _ W31 E31 G st31 x31 R31 (by intro h; exact hm (by simp [pPrim, pmD, hres10, hres13, hres16, hres22, hres26, hres28, hres29, hres30, hres31, hc3, hc7, hc11, hc14, hc17, hc23, hc27, h]))) rfl rfl (by rintro p H' ⟨ae, hbad, rfl, Wb, Eb, xb, Fb⟩; change _ ∧ _; exact ⟨rfl, ae, by simp [pPrim, pmD, hres10, hres13, hres16, hres22, hres26, hres28, hres29, hres30, hres31, hc3, hc7, hc11, hc14, hc17, hc23, hc27, hbad], rfl, Wb, Eb, xb, FF31.trans WS Fb⟩) ?_; rintro _ H32 ⟨v32, st32, x32, hres32, rfl, R32, F32⟩
        obtain ⟨nv32, hA32, hN32⟩ := R32.at_
        have W32 := R32.w; have E32 := R32.e; have FF32 := FF31.trans WS F32; have hal32 := R32.al
        refine o_nilP ?_
        refine w_srP ?_
        refine o_mvP ?_
        refine o_mvP ?_
        refine o_mvP ?_
        refine o_mvP ?_
        refine o_stepP ?_
        refine o_nw W32 (a_build2 Try.underlying39 Ty.csz3 Ty.zero3 tE tE) rfl rfl rfl (by simp) ?_; intro H33 n33 W33 X33 A33
        have E33 := E32.trans X33
        have hA32 := X33.keep _ _ hA32
        have L33 : SI H33 [v29, v31] (freshSl (H32.n) 2 2) := si_fresh (ks := [v29, v31]) A33 (by simp)
        refine o_nil ?_
        refine o_stepP ?_
        refine o_cl rfl rfl tS rfl (node_fin ho W0 W33 E33 src sv T tv rb G st32 x32 hS hT hO (R32.ext X33) (17) (plF src T st.a) (0) [] [v29, v31] _ (L33) (node_ok (k := 17) (a := plF src T st.a) (n := 0) (nm := []) (ks := [v29, v31]) (st := st32) (by intro h; exact hm (by simp [pPrim, pmD, hres10, hres13, hres16, hres22, hres26, hres28, hres29, hres30, hres31, hres32, hc3, hc7, hc11, hc14, hc17, hc23, hc27, h]))).1 (node_ok (k := 17) (a := plF src T st.a) (n := 0) (nm := []) (ks := [v29, v31]) (st := st32) (by intro h; exact hm (by simp [pPrim, pmD, hres10, hres13, hres16, hres22, hres26, hres28, hres29, hres30, hres31, hres32, hc3, hc7, hc11, hc14, hc17, hc23, hc27, h]))).2) rfl rfl ?_; rintro _ H34 ⟨v34, st34, x34, hres34, rfl, R34, F34⟩
        obtain ⟨nv34, hA34, hN34⟩ := R34.at_
        have W34 := R34.w; have E34 := R34.e; have FF34 := (FF32.trans WS (Fr2.ofExt X33)).trans WS F34; have hal34 := R34.al
        refine o_nil ?_
        refine o_asP ?_
        refine o_nilP ?_
        refine w_ret ?_
        change _ ∧ _
        refine ⟨rfl, .int .i64 (v34), (show resultA Try.prog [.tmp 2] _ = _ from tR), ?_⟩
        try dsimp only
        exact ⟨_, st34, x34, by simp [pPrim, pmD, hres10, hres13, hres16, hres22, hres26, hres28, hres29, hres30, hres31, hres32, hres34, hc3, hc7, hc11, hc14, hc17, hc23, hc27], rfl, R34, FF34⟩
       ·have hc27 := hB27
        refine w_srP ?_
        refine o_mvP ?_
        refine o_stepP ?_
        refine o_cl rfl rfl tS rfl (got_fin ho W0 W26 E26 ho81 tx ho69 src sv T tv rb G st26 x26 hS hT hO R26 [108, 101, 110]) rfl rfl ?_; rintro _ H35 ⟨v35, st35, x35, hres35, rfl, R35, F35⟩
        obtain ⟨nv35, hA35, hN35⟩ := R35.at_
        have W35 := R35.w; have E35 := R35.e; have FF35 := FF26.trans WS F35; have hal35 := R35.al
        refine o_nil ?_
        refine o_asP ?_
        refine o_nilP ?_
        refine w_cond tE (fun hB36 => ?_) (fun hB36 => ?_)
        ·have hc36 := hB36
         refine w_srP ?_
         refine o_mvP ?_
         refine o_clP rfl rfl tS rfl (want_ct ho W0 ho81 tx ho69 src sv T tv rb hS hT hO [40] _ W35 E35 G st35 x35 R35 (by intro h; exact hm (by simp [pPrim, pmD, hres10, hres13, hres16, hres22, hres26, hres35, hc3, hc7, hc11, hc14, hc17, hc23, hc27, hc36, h]))) rfl rfl (by rintro p H' ⟨ae, hbad, rfl, Wb, Eb, xb, Fb⟩; change _ ∧ _; exact ⟨rfl, ae, by simp [pPrim, pmD, hres10, hres13, hres16, hres22, hres26, hres35, hc3, hc7, hc11, hc14, hc17, hc23, hc27, hc36, hbad], rfl, Wb, Eb, xb, FF35.trans WS Fb⟩) ?_; rintro _ H37 ⟨v37, st37, x37, hres37, rfl, R37, F37⟩
         obtain ⟨nv37, hA37, hN37⟩ := R37.at_
         have W37 := R37.w; have E37 := R37.e; have FF37 := FF35.trans WS F37; have hal37 := R37.al
         refine o_nilP ?_
         refine w_srP ?_
         refine o_mvP ?_
         refine o_clP rfl rfl tS rfl ((ih f (by omega)).expr _ W37 E37 G st37 x37 R37 (by intro h; exact hm (by simp [pPrim, pmD, hres10, hres13, hres16, hres22, hres26, hres35, hres37, hc3, hc7, hc11, hc14, hc17, hc23, hc27, hc36, h]))) rfl rfl (by rintro p H' ⟨ae, hbad, rfl, Wb, Eb, xb, Fb⟩; change _ ∧ _; exact ⟨rfl, ae, by simp [pPrim, pmD, hres10, hres13, hres16, hres22, hres26, hres35, hres37, hc3, hc7, hc11, hc14, hc17, hc23, hc27, hc36, hbad], rfl, Wb, Eb, xb, FF37.trans WS Fb⟩) ?_; rintro _ H38 ⟨v38, st38, x38, hres38, rfl, R38, F38⟩
         obtain ⟨nv38, hA38, hN38⟩ := R38.at_
         have W38 := R38.w; have E38 := R38.e; have FF38 := FF37.trans WS F38; have hal38 := R38.al
         refine o_asP ?_
         refine o_nilP ?_
         refine w_srP ?_
         refine o_mvP ?_
         refine o_clP rfl rfl tS rfl (want_ct ho W0 ho81 tx ho69 src sv T tv rb hS hT hO [41] _ W38 E38 G st38 x38 R38 (by intro h; exact hm (by simp [pPrim, pmD, hres10, hres13, hres16, hres22, hres26, hres35, hres37, hres38, hc3, hc7, hc11, hc14, hc17, hc23, hc27, hc36, h]))) rfl rfl (by rintro p H' ⟨ae, hbad, rfl, Wb, Eb, xb, Fb⟩; change _ ∧ _; exact ⟨rfl, ae, by simp [pPrim, pmD, hres10, hres13, hres16, hres22, hres26, hres35, hres37, hres38, hc3, hc7, hc11, hc14, hc17, hc23, hc27, hc36, hbad], rfl, Wb, Eb, xb, FF38.trans WS Fb⟩) ?_; rintro _ H39 ⟨v39, st39, x39, hres39, rfl, R39, F39⟩
         obtain ⟨nv39, hA39, hN39⟩ := R39.at_
         have W39 := R39.w; have E39 := R39.e; have FF39 := FF38.trans WS F39; have hal39 := R39.al
         refine o_nilP ?_
         refine w_srP ?_
         refine o_mvP ?_
         refine o_mvP ?_
         refine o_mvP ?_
         refine o_stepP ?_
         refine o_nw W39 (a_build1 Try.underlying39 Ty.csz3 Ty.zero3 rfl tE rfl (by decide)) rfl rfl rfl (by simp) ?_; intro H40 n40 W40 X40 A40
         have E40 := E39.trans X40
         have hA39 := X40.keep _ _ hA39
         have L40 : SI H40 [v38] (freshSl (H39.n) 1 1) := si_fresh (ks := [v38]) A40 (by simp)
         refine o_nil ?_
         refine o_stepP ?_
         refine o_cl rfl rfl tS rfl (node_fin ho W0 W40 E40 src sv T tv rb G st39 x39 hS hT hO (R39.ext X40) (18) (plF src T st.a) (0) [] [v38] _ (L40) (node_ok (k := 18) (a := plF src T st.a) (n := 0) (nm := []) (ks := [v38]) (st := st39) (by intro h; exact hm (by simp [pPrim, pmD, hres10, hres13, hres16, hres22, hres26, hres35, hres37, hres38, hres39, hc3, hc7, hc11, hc14, hc17, hc23, hc27, hc36, h]))).1 (node_ok (k := 18) (a := plF src T st.a) (n := 0) (nm := []) (ks := [v38]) (st := st39) (by intro h; exact hm (by simp [pPrim, pmD, hres10, hres13, hres16, hres22, hres26, hres35, hres37, hres38, hres39, hc3, hc7, hc11, hc14, hc17, hc23, hc27, hc36, h]))).2) rfl rfl ?_; rintro _ H41 ⟨v41, st41, x41, hres41, rfl, R41, F41⟩
         obtain ⟨nv41, hA41, hN41⟩ := R41.at_
         have W41 := R41.w; have E41 := R41.e; have FF41 := (FF39.trans WS (Fr2.ofExt X40)).trans WS F41; have hal41 := R41.al
         refine o_nil ?_
         refine o_asP ?_
         refine o_nilP ?_
         refine w_ret ?_
         change _ ∧ _
         refine ⟨rfl, .int .i64 (v41), (show resultA Try.prog [.tmp 2] _ = _ from tR), ?_⟩
         try dsimp only
         exact ⟨_, st41, x41, by simp [pPrim, pmD, hres10, hres13, hres16, hres22, hres26, hres35, hres37, hres38, hres39, hres41, hc3, hc7, hc11, hc14, hc17, hc23, hc27, hc36], rfl, R41, FF41⟩
        ·have hc36 := hB36
         refine w_srP ?_
         refine o_mvP ?_
         refine o_stepP ?_
         refine o_cl rfl rfl tS rfl (got_fin ho W0 W35 E35 ho81 tx ho69 src sv T tv rb G st35 x35 hS hT hO R35 [109, 97, 107, 101]) rfl rfl ?_; rintro _ H42 ⟨v42, st42, x42, hres42, rfl, R42, F42⟩
         obtain ⟨nv42, hA42, hN42⟩ := R42.at_
         have W42 := R42.w; have E42 := R42.e; have FF42 := FF35.trans WS F42; have hal42 := R42.al
         refine o_nil ?_
         refine o_asP ?_
         refine o_nilP ?_
         refine w_cond tE (fun hB43 => ?_) (fun hB43 => ?_)
         ·have hc43 := hB43
          refine w_srP ?_
          refine o_mvP ?_
          refine o_mvP ?_
          refine o_mvP ?_
          refine o_clP rfl rfl tS rfl ((ih f (by omega)).chan _ W42 E42 G st42 x42 R42 (by intro h; exact hm (by simp [pPrim, pmD, hres10, hres13, hres16, hres22, hres26, hres35, hres42, hc3, hc7, hc11, hc14, hc17, hc23, hc27, hc36, hc43, h]))) rfl rfl (by rintro p H' ⟨ae, hbad, rfl, Wb, Eb, xb, Fb⟩; change _ ∧ _; exact ⟨rfl, ae, by simp [pPrim, pmD, hres10, hres13, hres16, hres22, hres26, hres35, hres42, hc3, hc7, hc11, hc14, hc17, hc23, hc27, hc36, hc43, hbad], rfl, Wb, Eb, xb, FF42.trans WS Fb⟩) ?_; rintro _ H44 ⟨v44, st44, x44, hres44, rfl, R44, F44⟩
          obtain ⟨nv44, hA44, hN44⟩ := R44.at_
          have W44 := R44.w; have E44 := R44.e; have FF44 := FF42.trans WS F44; have hal44 := R44.al
          refine o_stepP ?_
          refine o_nw W44 (a_build1 Try.underlying39 Ty.csz3 Ty.zero3 rfl tE rfl (by decide)) rfl rfl rfl (by simp) ?_; intro H45 n45 W45 X45 A45
          have E45 := E44.trans X45
          have hA44 := X45.keep _ _ hA44
          have L45 : SI H45 [v44] (freshSl (H44.n) 1 1) := si_fresh (ks := [v44]) A45 (by simp)
          refine o_nil ?_
          refine o_stepP ?_
          refine o_cl rfl rfl tS rfl (node_fin ho W0 W45 E45 src sv T tv rb G st44 x44 hS hT hO (R44.ext X45) (19) (plF src T st.a) (0) [] [v44] _ (L45) (node_ok (k := 19) (a := plF src T st.a) (n := 0) (nm := []) (ks := [v44]) (st := st44) (by intro h; exact hm (by simp [pPrim, pmD, hres10, hres13, hres16, hres22, hres26, hres35, hres42, hres44, hc3, hc7, hc11, hc14, hc17, hc23, hc27, hc36, hc43, h]))).1 (node_ok (k := 19) (a := plF src T st.a) (n := 0) (nm := []) (ks := [v44]) (st := st44) (by intro h; exact hm (by simp [pPrim, pmD, hres10, hres13, hres16, hres22, hres26, hres35, hres42, hres44, hc3, hc7, hc11, hc14, hc17, hc23, hc27, hc36, hc43, h]))).2) rfl rfl ?_; rintro _ H46 ⟨v46, st46, x46, hres46, rfl, R46, F46⟩
          obtain ⟨nv46, hA46, hN46⟩ := R46.at_
          have W46 := R46.w; have E46 := R46.e; have FF46 := (FF44.trans WS (Fr2.ofExt X45)).trans WS F46; have hal46 := R46.al
          refine o_nil ?_
          refine o_asP ?_
          refine o_nilP ?_
          refine w_ret ?_
          change _ ∧ _
          refine ⟨rfl, .int .i64 (v46), (show resultA Try.prog [.tmp 2] _ = _ from tR), ?_⟩
          try dsimp only
          exact ⟨_, st46, x46, by simp [pPrim, pmD, hres10, hres13, hres16, hres22, hres26, hres35, hres42, hres44, hres46, hc3, hc7, hc11, hc14, hc17, hc23, hc27, hc36, hc43], rfl, R46, FF46⟩
         ·have hc43 := hB43
          refine w_srP ?_
          refine o_mvP ?_
          refine o_stepP ?_
          refine o_cl rfl rfl tS rfl (got_fin ho W0 W42 E42 ho81 tx ho69 src sv T tv rb G st42 x42 hS hT hO R42 [112, 114, 111, 103]) rfl rfl ?_; rintro _ H47 ⟨v47, st47, x47, hres47, rfl, R47, F47⟩
          obtain ⟨nv47, hA47, hN47⟩ := R47.at_
          have W47 := R47.w; have E47 := R47.e; have FF47 := FF42.trans WS F47; have hal47 := R47.al
          refine o_nil ?_
          refine o_asP ?_
          refine o_nilP ?_
          refine w_cond tE (fun hB48 => ?_) (fun hB48 => ?_)
          ·have hc48 := hB48
           refine w_srP ?_
           refine o_mvP ?_
           refine o_mvP ?_
           refine o_clP rfl rfl tS rfl ((ih f (by omega)).prog (plF src T st.a) _ W47 E47 G st47 x47 R47 (by intro h; exact hm (by simp [pPrim, pmD, hres10, hres13, hres16, hres22, hres26, hres35, hres42, hres47, hc3, hc7, hc11, hc14, hc17, hc23, hc27, hc36, hc43, hc48, h]))) rfl rfl (by rintro p H' ⟨ae, hbad, rfl, Wb, Eb, xb, Fb⟩; change _ ∧ _; exact ⟨rfl, ae, by simp [pPrim, pmD, hres10, hres13, hres16, hres22, hres26, hres35, hres42, hres47, hc3, hc7, hc11, hc14, hc17, hc23, hc27, hc36, hc43, hc48, hbad], rfl, Wb, Eb, xb, FF47.trans WS Fb⟩) ?_; rintro _ H49 ⟨v49, st49, x49, hres49, rfl, R49, F49⟩
           obtain ⟨nv49, hA49, hN49⟩ := R49.at_
           have W49 := R49.w; have E49 := R49.e; have FF49 := FF47.trans WS F49; have hal49 := R49.al
           refine o_asP ?_
           refine o_nilP ?_
           refine w_ret ?_
           change _ ∧ _
           refine ⟨rfl, .int .i64 (v49), (show resultA Try.prog [.tmp 2] _ = _ from tR), ?_⟩
           try dsimp only
           exact ⟨_, st49, x49, by simp [pPrim, pmD, hres10, hres13, hres16, hres22, hres26, hres35, hres42, hres47, hres49, hc3, hc7, hc11, hc14, hc17, hc23, hc27, hc36, hc43, hc48], rfl, R49, FF49⟩
          ·have hc48 := hB48
           refine w_skip ?_
           refine w_srP ?_
           refine o_mvP ?_
           exact o_clP rfl rfl tS rfl (fail_fin ho W0 W47 E47 src sv T tv rb G st47 x47 hS hT hO R47) rfl rfl (by rintro p H' ⟨rfl, X⟩; change _ ∧ _; exact ⟨rfl, _, by simp [pPrim, pmD, hres10, hres13, hres16, hres22, hres26, hres35, hres42, hres47, hc3, hc7, hc11, hc14, hc17, hc23, hc27, hc36, hc43, hc48], rfl, X.wf, E47.trans X, _, FF47.trans WS (Fr2.ofExt X)⟩) (fun _ _ h => False.elim h)
end Go.Proofs.Ytehmhhlhlipbnaa.Vs
