/-
 The rest of the reader's functions.
-/
import Derived.Test.YtehmhhlhlipbnaaParse8
set_option autoImplicit false
set_option linter.unusedVariables false
set_option linter.unusedSimpArgs false
namespace Go.Proofs.Ytehmhhlhlipbnaa.Vs
open Go.VI Go.Proofs
variable {orc : CallF}
set_option maxRecDepth 100000 in
set_option maxHeartbeats 4000000 in
theorem typ_fin (ho : NoOrcBut [7, 21, 69, 81] orc) {H0 HS : AH} (W0 : Wf H0) (WS : Wf HS) (ES : Ext H0 HS) (ho81 : ∃ sg, ∀ H, orc 81 [] H = some (.ret sg, H)) (tx : Nat → List UInt8) (ho69 : ∀ k : Nat, k < 67 → ∀ H, orc 69 [.int .i64 (k : Int)] H = some (.ret (.str (tx k)), H)) (src : List UInt8) (sv : AV) (T : List TK) (tv : AV) (rb : Nat) (G : LK → Prop) (st : PS) (x : LK) (hS : SB H0 5 src sv) (hT : TS H0 T tv) (hO : TOk src T) (hR : RS H0 sv tv T.length rb G HS st x) (f : Nat) (ih : ∀ g, g ≤ f → IH orc H0 sv tv rb tx src T g) (hm : pTyp tx src T (f + 1) st ≠ none) : FinP Try.prog orc 51 [.ptr (.mt (rb)) (0)] HS (fun r H' => OkR H0 sv tv T.length rb G HS x (pTyp tx src T (f + 1) st) (AV.int .i64) r H') (fun r H' => BadR H0 rb HS x (pTyp tx src T (f + 1) st) r H') := by
 have E0 := ES
 obtain ⟨nv, hA, hN⟩ := hR.at_; have hr0 := hR.r0; have hTl := hO.len; have hal := hR.al; have hSb := hS.bound; have hrbl := WS.lt hA
 refine fin_ofP Try.func51 rfl (by rw [Try.ntmps51]; simp) (ho _ rfl _ _) ?_
 rw [Try.ntmps51]
 refine w_srP ?_
 refine o_asP ?_
 refine o_nilP ?_
 refine w_srP ?_
 refine o_mvP ?_
 refine o_stepP ?_
 refine o_cl rfl rfl tS rfl (place_fin ho W0 WS E0 src sv T tv rb G st x hS hT hO hR) rfl rfl ?_; rintro _ H1 ⟨rfl, X1⟩
 have W1 := X1.wf; have E1 := E0.trans X1
 have hA := X1.keep _ _ hA
 have n1 := X1.n
 refine o_nil ?_
 refine o_asP ?_
 refine o_nilP ?_
 refine w_seq ?_
 refine w_block ?_
 refine w_srP ?_
 refine o_mvP ?_
 refine o_stepP ?_
 refine o_cl rfl rfl tS rfl (knd_fin ho W0 W1 E1 src sv T tv rb G st x hS hT hO (hR.ext X1)) rfl rfl ?_; rintro _ H2 ⟨rfl, X2⟩
 have W2 := X2.wf; have E2 := E1.trans X2
 have hA := X2.keep _ _ hA
 have n2 := X2.n
 refine o_nil ?_
 refine o_rdP (r_eq (a := knF T st.a) (b := 1) tE tE) rfl rfl ?_
 refine o_asP ?_
 refine o_nilP ?_
 refine w_cond tE (fun hB3 => ?_) (fun hB3 => ?_)
 ·have hc3 := dec_t hB3
  refine w_srP ?_
  refine o_mvP ?_
  refine o_mvP ?_
  refine o_mvP ?_
  refine o_clP rfl rfl tS rfl (name_ct ho W0 ho81 tx ho69 src sv T tv rb hS hT hO _ W2 E2 G st x (hR.ext (X1.trans X2)) (by intro h; exact hm (by simp [pTyp, pmD, hc3, h]))) rfl rfl (by rintro p H' ⟨ae, hbad, rfl, Wb, Eb, xb, Fb⟩; change _ ∧ _; exact ⟨rfl, ae, by simp [pTyp, pmD, hc3, hbad], rfl, Wb, Eb, xb, ((Fr2.refl WS).trans WS (Fr2.ofExt (X1.trans X2))).trans WS Fb⟩) ?_; rintro _ H4 ⟨v4, st4, x4, hres4, rfl, R4, F4⟩
  obtain ⟨nv4, hA4, hN4⟩ := R4.at_
  have W4 := R4.w; have E4 := R4.e; have FF4 := ((Fr2.refl WS).trans WS (Fr2.ofExt (X1.trans X2))).trans WS F4; have hal4 := R4.al
  refine o_stepP ?_
  refine o_cl rfl rfl tS rfl (node_fin ho W0 W4 E4 src sv T tv rb G st4 x4 hS hT hO R4 (3) (plF src T st.a) (0) v4 [] _ (.nil) (node_ok (k := 3) (a := plF src T st.a) (n := 0) (nm := v4) (ks := []) (st := st4) (by intro h; exact hm (by simp [pTyp, pmD, hres4, hc3, h]))).1 (node_ok (k := 3) (a := plF src T st.a) (n := 0) (nm := v4) (ks := []) (st := st4) (by intro h; exact hm (by simp [pTyp, pmD, hres4, hc3, h]))).2) rfl rfl ?_; rintro _ H5 ⟨v5, st5, x5, hres5, rfl, R5, F5⟩
  obtain ⟨nv5, hA5, hN5⟩ := R5.at_
  have W5 := R5.w; have E5 := R5.e; have FF5 := FF4.trans WS F5; have hal5 := R5.al
  refine o_nil ?_
  refine o_asP ?_
  refine o_nilP ?_
  refine w_ret ?_
  change _ ∧ _
  refine ⟨rfl, .int .i64 (v5), (show resultA Try.prog [.tmp 2] _ = _ from tR), ?_⟩
  try dsimp only
  exact ⟨_, st5, x5, by simp [pTyp, pmD, hres4, hres5, hc3], rfl, R5, FF5⟩
 ·have hc3 := dec_f hB3
  refine w_srP ?_
  refine o_mvP ?_
  refine o_stepP ?_
  refine o_cl rfl rfl tS rfl (got_fin ho W0 W2 E2 ho81 tx ho69 src sv T tv rb G st x hS hT hO (hR.ext (X1.trans X2)) [105, 110, 116]) rfl rfl ?_; rintro _ H6 ⟨v6, st6, x6, hres6, rfl, R6, F6⟩
  obtain ⟨nv6, hA6, hN6⟩ := R6.at_
  have W6 := R6.w; have E6 := R6.e; have FF6 := ((Fr2.refl WS).trans WS (Fr2.ofExt (X1.trans X2))).trans WS F6; have hal6 := R6.al
  refine o_nil ?_
  refine o_asP ?_
  refine o_nilP ?_
  refine w_cond tE (fun hB7 => ?_) (fun hB7 => ?_)
  ·have hc7 := hB7
   refine w_srP ?_
   refine o_mvP ?_
   refine o_mvP ?_
   refine o_stepP ?_
   refine o_cl rfl rfl tS rfl (node_fin ho W0 W6 E6 src sv T tv rb G st6 x6 hS hT hO R6 (1) (plF src T st.a) (0) [] [] _ (.nil) (node_ok (k := 1) (a := plF src T st.a) (n := 0) (nm := []) (ks := []) (st := st6) (by intro h; exact hm (by simp [pTyp, pmD, hres6, hc3, hc7, h]))).1 (node_ok (k := 1) (a := plF src T st.a) (n := 0) (nm := []) (ks := []) (st := st6) (by intro h; exact hm (by simp [pTyp, pmD, hres6, hc3, hc7, h]))).2) rfl rfl ?_; rintro _ H8 ⟨v8, st8, x8, hres8, rfl, R8, F8⟩
   obtain ⟨nv8, hA8, hN8⟩ := R8.at_
   have W8 := R8.w; have E8 := R8.e; have FF8 := FF6.trans WS F8; have hal8 := R8.al
   refine o_nil ?_
   refine o_asP ?_
   refine o_nilP ?_
   refine w_ret ?_
   change _ ∧ _
   refine ⟨rfl, .int .i64 (v8), (show resultA Try.prog [.tmp 2] _ = _ from tR), ?_⟩
   try dsimp only
   exact ⟨_, st8, x8, by simp [pTyp, pmD, hres6, hres8, hc3, hc7], rfl, R8, FF8⟩
  ·have hc7 := hB7
   refine w_srP ?_
   refine o_mvP ?_
   refine o_stepP ?_
   refine o_cl rfl rfl tS rfl (got_fin ho W0 W6 E6 ho81 tx ho69 src sv T tv rb G st6 x6 hS hT hO R6 [98, 111, 111, 108]) rfl rfl ?_; rintro _ H9 ⟨v9, st9, x9, hres9, rfl, R9, F9⟩
   obtain ⟨nv9, hA9, hN9⟩ := R9.at_
   have W9 := R9.w; have E9 := R9.e; have FF9 := FF6.trans WS F9; have hal9 := R9.al
   refine o_nil ?_
   refine o_asP ?_
   refine o_nilP ?_
   refine w_cond tE (fun hB10 => ?_) (fun hB10 => ?_)
   ·have hc10 := hB10
    refine w_srP ?_
    refine o_mvP ?_
    refine o_mvP ?_
    refine o_stepP ?_
    refine o_cl rfl rfl tS rfl (node_fin ho W0 W9 E9 src sv T tv rb G st9 x9 hS hT hO R9 (2) (plF src T st.a) (0) [] [] _ (.nil) (node_ok (k := 2) (a := plF src T st.a) (n := 0) (nm := []) (ks := []) (st := st9) (by intro h; exact hm (by simp [pTyp, pmD, hres6, hres9, hc3, hc7, hc10, h]))).1 (node_ok (k := 2) (a := plF src T st.a) (n := 0) (nm := []) (ks := []) (st := st9) (by intro h; exact hm (by simp [pTyp, pmD, hres6, hres9, hc3, hc7, hc10, h]))).2) rfl rfl ?_; rintro _ H11 ⟨v11, st11, x11, hres11, rfl, R11, F11⟩
    obtain ⟨nv11, hA11, hN11⟩ := R11.at_
    have W11 := R11.w; have E11 := R11.e; have FF11 := FF9.trans WS F11; have hal11 := R11.al
    refine o_nil ?_
    refine o_asP ?_
    refine o_nilP ?_
    refine w_ret ?_
    change _ ∧ _
    refine ⟨rfl, .int .i64 (v11), (show resultA Try.prog [.tmp 2] _ = _ from tR), ?_⟩
    try dsimp only
    exact ⟨_, st11, x11, by simp [pTyp, pmD, hres6, hres9, hres11, hc3, hc7, hc10], rfl, R11, FF11⟩
   ·have hc10 := hB10
    refine w_srP ?_
    refine o_mvP ?_
    refine o_stepP ?_
    refine o_cl rfl rfl tS rfl (got_fin ho W0 W9 E9 ho81 tx ho69 src sv T tv rb G st9 x9 hS hT hO R9 [97, 114, 114, 97, 121]) rfl rfl ?_; rintro _ H12 ⟨v12, st12, x12, hres12, rfl, R12, F12⟩
    obtain ⟨nv12, hA12, hN12⟩ := R12.at_
    have W12 := R12.w; have E12 := R12.e; have FF12 := FF9.trans WS F12; have hal12 := R12.al
    refine o_nil ?_
    refine o_asP ?_
    refine o_nilP ?_
    refine w_cond tE (fun hB13 => ?_) (fun hB13 => ?_)
    ·have hc13 := hB13
     refine w_srP ?_
     refine o_mvP ?_
     refine o_clP rfl rfl tS rfl (want_ct ho W0 ho81 tx ho69 src sv T tv rb hS hT hO [111, 102] _ W12 E12 G st12 x12 R12 (by intro h; exact hm (by simp [pTyp, pmD, hres6, hres9, hres12, hc3, hc7, hc10, hc13, h]))) rfl rfl (by rintro p H' ⟨ae, hbad, rfl, Wb, Eb, xb, Fb⟩; change _ ∧ _; exact ⟨rfl, ae, by simp [pTyp, pmD, hres6, hres9, hres12, hc3, hc7, hc10, hc13, hbad], rfl, Wb, Eb, xb, FF12.trans WS Fb⟩) ?_; rintro _ H14 ⟨v14, st14, x14, hres14, rfl, R14, F14⟩
     obtain ⟨nv14, hA14, hN14⟩ := R14.at_
     have W14 := R14.w; have E14 := R14.e; have FF14 := FF12.trans WS F14; have hal14 := R14.al
     refine o_nilP ?_
     refine w_srP ?_
     refine o_mvP ?_
     refine o_mvP ?_
     refine o_mvP ?_
     refine o_clP rfl rfl tS rfl ((ih f (by omega)).typ _ W14 E14 G st14 x14 R14 (by intro h; exact hm (by simp [pTyp, pmD, hres6, hres9, hres12, hres14, hc3, hc7, hc10, hc13, h]))) rfl rfl (by rintro p H' ⟨ae, hbad, rfl, Wb, Eb, xb, Fb⟩; change _ ∧ _; exact ⟨rfl, ae, by simp [pTyp, pmD, hres6, hres9, hres12, hres14, hc3, hc7, hc10, hc13, hbad], rfl, Wb, Eb, xb, FF14.trans WS Fb⟩) ?_; rintro _ H15 ⟨v15, st15, x15, hres15, rfl, R15, F15⟩
     obtain ⟨nv15, hA15, hN15⟩ := R15.at_
     have W15 := R15.w; have E15 := R15.e; have FF15 := FF14.trans WS F15; have hal15 := R15.al
     refine o_stepP ?_
     refine o_nw W15 (a_build1 Try.underlying39 Ty.csz3 Ty.zero3 rfl tE rfl (by decide)) rfl rfl rfl (by simp) ?_; intro H16 n16 W16 X16 A16
     have E16 := E15.trans X16
     have hA15 := X16.keep _ _ hA15
     have L16 : SI H16 [v15] (freshSl (H15.n) 1 1) := si_fresh (ks := [v15]) A16 (by simp)
     refine o_nil ?_
     refine o_stepP ?_
     refine o_cl rfl rfl tS rfl (node_fin ho W0 W16 E16 src sv T tv rb G st15 x15 hS hT hO (R15.ext X16) (4) (plF src T st.a) (0) [] [v15] _ (L16) (node_ok (k := 4) (a := plF src T st.a) (n := 0) (nm := []) (ks := [v15]) (st := st15) (by intro h; exact hm (by simp [pTyp, pmD, hres6, hres9, hres12, hres14, hres15, hc3, hc7, hc10, hc13, h]))).1 (node_ok (k := 4) (a := plF src T st.a) (n := 0) (nm := []) (ks := [v15]) (st := st15) (by intro h; exact hm (by simp [pTyp, pmD, hres6, hres9, hres12, hres14, hres15, hc3, hc7, hc10, hc13, h]))).2) rfl rfl ?_; rintro _ H17 ⟨v17, st17, x17, hres17, rfl, R17, F17⟩
     obtain ⟨nv17, hA17, hN17⟩ := R17.at_
     have W17 := R17.w; have E17 := R17.e; have FF17 := (FF15.trans WS (Fr2.ofExt X16)).trans WS F17; have hal17 := R17.al
     refine o_nil ?_
     refine o_asP ?_
     refine o_nilP ?_
     refine w_ret ?_
     change _ ∧ _
     refine ⟨rfl, .int .i64 (v17), (show resultA Try.prog [.tmp 2] _ = _ from tR), ?_⟩
     try dsimp only
     exact ⟨_, st17, x17, by simp [pTyp, pmD, hres6, hres9, hres12, hres14, hres15, hres17, hc3, hc7, hc10, hc13], rfl, R17, FF17⟩
    ·have hc13 := hB13
     refine w_srP ?_
     refine o_mvP ?_
     refine o_stepP ?_
     refine o_cl rfl rfl tS rfl (is_fin ho W0 W12 E12 ho81 tx ho69 src sv T tv rb G st12 x12 hS hT hO R12 [99, 104, 97, 110]) rfl rfl ?_; rintro _ H18 ⟨rfl, X18⟩
     have W18 := X18.wf; have E18 := E12.trans X18
     have hA12 := X18.keep _ _ hA12
     have n18 := X18.n
     refine o_nil ?_
     refine o_asP ?_
     refine o_nilP ?_
     refine w_cond tE (fun hB19 => ?_) (fun hB19 => ?_)
     ·have hc19 := hB19
      refine w_srP ?_
      refine o_mvP ?_
      refine o_clP rfl rfl tS rfl ((ih f (by omega)).chan _ W18 E18 G st12 x12 (R12.ext X18) (by intro h; exact hm (by simp [pTyp, pmD, hres6, hres9, hres12, hc3, hc7, hc10, hc13, hc19, h]))) rfl rfl (by rintro p H' ⟨ae, hbad, rfl, Wb, Eb, xb, Fb⟩; change _ ∧ _; exact ⟨rfl, ae, by simp [pTyp, pmD, hres6, hres9, hres12, hc3, hc7, hc10, hc13, hc19, hbad], rfl, Wb, Eb, xb, (FF12.trans WS (Fr2.ofExt X18)).trans WS Fb⟩) ?_; rintro _ H20 ⟨v20, st20, x20, hres20, rfl, R20, F20⟩
      obtain ⟨nv20, hA20, hN20⟩ := R20.at_
      have W20 := R20.w; have E20 := R20.e; have FF20 := (FF12.trans WS (Fr2.ofExt X18)).trans WS F20; have hal20 := R20.al
      refine o_asP ?_
      refine o_nilP ?_
      refine w_ret ?_
      change _ ∧ _
      refine ⟨rfl, .int .i64 (v20), (show resultA Try.prog [.tmp 2] _ = _ from tR), ?_⟩
      try dsimp only
      exact ⟨_, st20, x20, by simp [pTyp, pmD, hres6, hres9, hres12, hres20, hc3, hc7, hc10, hc13, hc19], rfl, R20, FF20⟩
     ·have hc19 := hB19
      refine w_srP ?_
      refine o_mvP ?_
      refine o_stepP ?_
      refine o_cl rfl rfl tS rfl (got_fin ho W0 W18 E18 ho81 tx ho69 src sv T tv rb G st12 x12 hS hT hO (R12.ext X18) [40]) rfl rfl ?_; rintro _ H21 ⟨v21, st21, x21, hres21, rfl, R21, F21⟩
      obtain ⟨nv21, hA21, hN21⟩ := R21.at_
      have W21 := R21.w; have E21 := R21.e; have FF21 := (FF12.trans WS (Fr2.ofExt X18)).trans WS F21; have hal21 := R21.al
      refine o_nil ?_
      refine o_asP ?_
      refine o_nilP ?_
      refine w_cond tE (fun hB22 => ?_) (fun hB22 => ?_)
      ·have hc22 := hB22
       refine w_srP ?_
       refine o_mvP ?_
       refine o_clP rfl rfl tS rfl ((ih f (by omega)).typ _ W21 E21 G st21 x21 R21 (by intro h; exact hm (by simp [pTyp, pmD, hres6, hres9, hres12, hres21, hc3, hc7, hc10, hc13, hc19, hc22, h]))) rfl rfl (by rintro p H' ⟨ae, hbad, rfl, Wb, Eb, xb, Fb⟩; change _ ∧ _; exact ⟨rfl, ae, by simp [pTyp, pmD, hres6, hres9, hres12, hres21, hc3, hc7, hc10, hc13, hc19, hc22, hbad], rfl, Wb, Eb, xb, FF21.trans WS Fb⟩) ?_; rintro _ H23 ⟨v23, st23, x23, hres23, rfl, R23, F23⟩
       obtain ⟨nv23, hA23, hN23⟩ := R23.at_
       have W23 := R23.w; have E23 := R23.e; have FF23 := FF21.trans WS F23; have hal23 := R23.al
       refine o_asP ?_
       refine o_nilP ?_
       refine w_srP ?_
       refine o_mvP ?_
       refine o_clP rfl rfl tS rfl (want_ct ho W0 ho81 tx ho69 src sv T tv rb hS hT hO [44] _ W23 E23 G st23 x23 R23 (by intro h; exact hm (by simp [pTyp, pmD, hres6, hres9, hres12, hres21, hres23, hc3, hc7, hc10, hc13, hc19, hc22, h]))) rfl rfl (by rintro p H' ⟨ae, hbad, rfl, Wb, Eb, xb, Fb⟩; change _ ∧ _; exact ⟨rfl, ae, by simp [pTyp, pmD, hres6, hres9, hres12, hres21, hres23, hc3, hc7, hc10, hc13, hc19, hc22, hbad], rfl, Wb, Eb, xb, FF23.trans WS Fb⟩) ?_; rintro _ H24 ⟨v24, st24, x24, hres24, rfl, R24, F24⟩
       obtain ⟨nv24, hA24, hN24⟩ := R24.at_
       have W24 := R24.w; have E24 := R24.e; have FF24 := FF23.trans WS F24; have hal24 := R24.al
       refine o_nilP ?_
       refine w_srP ?_
       refine o_mvP ?_
       refine o_mvP ?_
       refine o_mvP ?_
       refine o_stepP ?_
       refine o_nw W24 (a_build1 Try.underlying39 Ty.csz3 Ty.zero3 rfl tE rfl (by decide)) rfl rfl rfl (by simp) ?_; intro H25 n25 W25 X25 A25
       have E25 := E24.trans X25
       have Q25 : KQ H0 HS.n sv tv T.length rb G H25 st24 x24 [v23] (freshSl (H24.n) 1 1) (H24.n, none) := KQ.row (vs := [v23]) R24 X25 n25 FF24.n A25 (by simp)
       have hA24 := X25.keep _ _ hA24
       refine o_nil ?_
       refine o_mvP ?_
       refine o_clP rfl rfl tS rfl ((ih f (by omega)).types _ W25 E25 (GK G [v23] (H24.n, none)) st24 x24 Q25.r (by intro h; exact hm (by simp [pTyp, pmD, hres6, hres9, hres12, hres21, hres23, hres24, hc3, hc7, hc10, hc13, hc19, hc22, h]))) rfl rfl (by rintro p H' ⟨ae, hbad, rfl, Wb, Eb, xb, Fb⟩; change _ ∧ _; exact ⟨rfl, ae, by simp [pTyp, pmD, hres6, hres9, hres12, hres21, hres23, hres24, hc3, hc7, hc10, hc13, hc19, hc22, hbad], rfl, Wb, Eb, xb, (FF24.trans WS (Fr2.ofExt X25)).trans WS Fb⟩) ?_; rintro kv26 H26 ⟨ks26, st26, x26, y26, hres26, O26, hk26, hk226, hy26, hg26, RL26, F26⟩
       have R26 := RL26.anti (G := (GK G [v23] (H24.n, none))) (fun z hz => Or.inl hz)
       obtain ⟨nv26, hA26, hN26⟩ := R26.at_
       have W26 := R26.w; have E26 := R26.e; have FF26 := (FF24.trans WS (Fr2.ofExt X25)).trans WS F26; have hal26 := R26.al
       have Q26 := KQ.fr Q25 R26 F26
       refine o_stepP ?_
       refine o_apK (n0 := HS.n) (vs := ks26) W0 W26 Q26 FF26.n ES.n Try.underlying39 Try.underlying39 rfl Ty.csz3 Ty.byt3 Ty.zero3 rfl tE tE (src_own O26).1 hk26 (by first | exact Nat.le_of_ble_eq_true rfl | (simp only [List.length_append, List.length_singleton]; omega)) rfl rfl ?_; intro kv27 H27 y27 Q27 A27
       have Q27 : KQ H0 HS.n sv tv T.length rb G H27 st26 x26 (v23 :: ks26) kv27 y27 := Q27
       obtain ⟨nv27, hA27, hN27⟩ := Q27.r.at_
       have W27 := Q27.r.w; have E27 := Q27.r.e; have FF27 := FF26.app WS Q26 A27
       refine o_nil ?_
       refine o_stepP ?_
       refine o_cl rfl rfl tS rfl (node_fin ho W0 W27 E27 src sv T tv rb (GK G (v23 :: ks26) y27) st26 x26 hS hT hO Q27.r (5) (plF src T st.a) (0) [] (v23 :: ks26) _ ((Q27.kl.si (by have := (node_ok (k := 5) (a := plF src T st.a) (n := 0) (nm := []) (ks := (v23 :: ks26)) (st := st26) (by intro h; exact hm (by simp [pTyp, pmD, hres6, hres9, hres12, hres21, hres23, hres24, hres26, hc3, hc7, hc10, hc13, hc19, hc22, h]))).2; omega))) (node_ok (k := 5) (a := plF src T st.a) (n := 0) (nm := []) (ks := (v23 :: ks26)) (st := st26) (by intro h; exact hm (by simp [pTyp, pmD, hres6, hres9, hres12, hres21, hres23, hres24, hres26, hc3, hc7, hc10, hc13, hc19, hc22, h]))).1 (node_ok (k := 5) (a := plF src T st.a) (n := 0) (nm := []) (ks := (v23 :: ks26)) (st := st26) (by intro h; exact hm (by simp [pTyp, pmD, hres6, hres9, hres12, hres21, hres23, hres24, hres26, hc3, hc7, hc10, hc13, hc19, hc22, h]))).2) rfl rfl ?_; rintro _ H28 ⟨v28, st28, x28, hres28, rfl, R28, F28⟩
       obtain ⟨nv28, hA28, hN28⟩ := R28.at_
       have W28 := R28.w; have E28 := R28.e; have FF28 := FF27.trans WS F28; have hal28 := R28.al
       have Q28 := KQ.fr Q27 R28 F28
       refine o_nil ?_
       refine o_asP ?_
       refine o_nilP ?_
       refine w_ret ?_
       change _ ∧ _
       refine ⟨rfl, .int .i64 (v28), (show resultA Try.prog [.tmp 2] _ = _ from tR), ?_⟩
       try dsimp only
       exact ⟨_, st28, x28, by simp [pTyp, pmD, hres6, hres9, hres12, hres21, hres23, hres24, hres26, hres28, hc3, hc7, hc10, hc13, hc19, hc22], rfl, (R28.anti (fun z hz => Or.inl hz)), FF28⟩
      ·have hc22 := hB22
       refine w_srP ?_
       refine o_mvP ?_
       refine o_stepP ?_
       refine o_cl rfl rfl tS rfl (got_fin ho W0 W21 E21 ho81 tx ho69 src sv T tv rb G st21 x21 hS hT hO R21 [112, 114, 111, 103]) rfl rfl ?_; rintro _ H29 ⟨v29, st29, x29, hres29, rfl, R29, F29⟩
       obtain ⟨nv29, hA29, hN29⟩ := R29.at_
       have W29 := R29.w; have E29 := R29.e; have FF29 := FF21.trans WS F29; have hal29 := R29.al
       refine o_nil ?_
       refine o_asP ?_
       refine o_nilP ?_
       refine w_cond tE (fun hB30 => ?_) (fun hB30 => ?_)
       ·have hc30 := hB30
        refine w_srP ?_
        refine o_mvP ?_
        refine o_clP rfl rfl tS rfl (want_ct ho W0 ho81 tx ho69 src sv T tv rb hS hT hO [40] _ W29 E29 G st29 x29 R29 (by intro h; exact hm (by simp [pTyp, pmD, hres6, hres9, hres12, hres21, hres29, hc3, hc7, hc10, hc13, hc19, hc22, hc30, h]))) rfl rfl (by rintro p H' ⟨ae, hbad, rfl, Wb, Eb, xb, Fb⟩; change _ ∧ _; exact ⟨rfl, ae, by simp [pTyp, pmD, hres6, hres9, hres12, hres21, hres29, hc3, hc7, hc10, hc13, hc19, hc22, hc30, hbad], rfl, Wb, Eb, xb, FF29.trans WS Fb⟩) ?_; rintro _ H31 ⟨v31, st31, x31, hres31, rfl, R31, F31⟩
        obtain ⟨nv31, hA31, hN31⟩ := R31.at_
        have W31 := R31.w; have E31 := R31.e; have FF31 := FF29.trans WS F31; have hal31 := R31.al
        refine o_nilP ?_
        refine w_srP ?_
        refine o_asP ?_
        refine o_nilP ?_
        refine w_seq ?_
        refine w_srP ?_
        refine o_mvP ?_
        refine o_stepP ?_
        refine o_cl rfl rfl tS rfl (got_fin ho W0 W31 E31 ho81 tx ho69 src sv T tv rb G st31 x31 hS hT hO R31 [41]) rfl rfl ?_; rintro _ H32 ⟨v32, st32, x32, hres32, rfl, R32, F32⟩
        obtain ⟨nv32, hA32, hN32⟩ := R32.at_
        have W32 := R32.w; have E32 := R32.e; have FF32 := FF31.trans WS F32; have hal32 := R32.al
        refine o_nil ?_
        refine o_rdP (r_not tE) rfl rfl ?_
        refine o_nilP ?_
        refine w_cond tE (fun hB33 => ?_) (fun hB33 => ?_)
        ·have hc33 := (not_t hB33)
         refine w_regionP ?_
         refine o_mvP ?_
         refine o_clP rfl rfl tS rfl ((ih f (by omega)).types _ W32 E32 G st32 x32 R32 (by intro h; exact hm (by simp [pTyp, pmD, hres6, hres9, hres12, hres21, hres29, hres31, hres32, hc3, hc7, hc10, hc13, hc19, hc22, hc30, hc33, h]))) rfl rfl (by rintro p H' ⟨ae, hbad, rfl, Wb, Eb, xb, Fb⟩; change _ ∧ _; exact ⟨rfl, ae, by simp [pTyp, pmD, hres6, hres9, hres12, hres21, hres29, hres31, hres32, hc3, hc7, hc10, hc13, hc19, hc22, hc30, hc33, hbad], rfl, Wb, Eb, xb, FF32.trans WS Fb⟩) ?_; rintro kv34 H34 ⟨ks34, st34, x34, y34, hres34, O34, hk34, hk234, hy34, hg34, RL34, F34⟩
         have R34 := RL34.anti (G := G) (fun z hz => Or.inl hz)
         have Q34 := KQ.ofL R32 O34 hk34 hy34 hg34 RL34 FF32.n
         obtain ⟨nv34, hA34, hN34⟩ := R34.at_
         have W34 := R34.w; have E34 := R34.e; have FF34 := FF32.trans WS F34; have hal34 := R34.al
         refine o_asP ?_
         refine o_nilP ?_
         refine w_srP ?_
         refine o_mvP ?_
         refine o_mvP ?_
         refine o_mvP ?_
         have QQ35 := Q34
         refine o_clP rfl rfl tS rfl ((ih f (by omega)).res _ W34 E34 G st34 x34 y34 (7) (plF src T st.a) [] ks34 (kv34) (QQ35.mono ES.n) (by intro h; exact hm (by simp [pTyp, pmD, hres6, hres9, hres12, hres21, hres29, hres31, hres32, hres34, hc3, hc7, hc10, hc13, hc19, hc22, hc30, hc33, h]))) rfl rfl (by rintro p H' ⟨ae, hbad, rfl, Wb, Eb, xb, ksb, yb, Fb⟩; change _ ∧ _; exact ⟨rfl, ae, by simp [pTyp, pmD, hres6, hres9, hres12, hres21, hres29, hres31, hres32, hres34, hc3, hc7, hc10, hc13, hc19, hc22, hc30, hc33, hbad], rfl, Wb, Eb, xb, Fr2.fr3 FF34 WS QQ35 Fb⟩) ?_; rintro _ H35 ⟨v35, st35, x35, ks35, y35, hres35, rfl, R35, F335⟩
         have FQ35 := Fr2.fr3 FF34 WS QQ35 F335
         obtain ⟨nv35, hA35, hN35⟩ := R35.at_
         have W35 := R35.w; have E35 := R35.e; have hal35 := R35.al
         refine o_asP ?_
         refine o_nilP ?_
         refine w_ret ?_
         change _ ∧ _
         refine ⟨rfl, .int .i64 (v35), (show resultA Try.prog [.tmp 2] _ = _ from tR), ?_⟩
         try dsimp only
         exact ⟨_, st35, x35, by simp [pTyp, pmD, hres6, hres9, hres12, hres21, hres29, hres31, hres32, hres34, hres35, hc3, hc7, hc10, hc13, hc19, hc22, hc30, hc33], rfl, R35, FQ35⟩
        ·have hc33 := (not_f hB33)
         refine w_skip ?_
         refine w_srP ?_
         refine o_mvP ?_
         refine o_mvP ?_
         refine o_mvP ?_
         have QQ36 := (KQ.start (n0 := HS.n) R32)
         refine o_clP rfl rfl tS rfl ((ih f (by omega)).res _ W32 E32 G st32 x32 (0, none) (7) (plF src T st.a) [] [] (.nils) (QQ36.mono ES.n) (by intro h; exact hm (by simp [pTyp, pmD, hres6, hres9, hres12, hres21, hres29, hres31, hres32, hc3, hc7, hc10, hc13, hc19, hc22, hc30, hc33, h]))) rfl rfl (by rintro p H' ⟨ae, hbad, rfl, Wb, Eb, xb, ksb, yb, Fb⟩; change _ ∧ _; exact ⟨rfl, ae, by simp [pTyp, pmD, hres6, hres9, hres12, hres21, hres29, hres31, hres32, hc3, hc7, hc10, hc13, hc19, hc22, hc30, hc33, hbad], rfl, Wb, Eb, xb, Fr2.fr3 FF32 WS QQ36 Fb⟩) ?_; rintro _ H36 ⟨v36, st36, x36, ks36, y36, hres36, rfl, R36, F336⟩
         have FQ36 := Fr2.fr3 FF32 WS QQ36 F336
         obtain ⟨nv36, hA36, hN36⟩ := R36.at_
         have W36 := R36.w; have E36 := R36.e; have hal36 := R36.al
         refine o_asP ?_
         refine o_nilP ?_
         refine w_ret ?_
         change _ ∧ _
         refine ⟨rfl, .int .i64 (v36), (show resultA Try.prog [.tmp 2] _ = _ from tR), ?_⟩
         try dsimp only
         exact ⟨_, st36, x36, by simp [pTyp, pmD, hres6, hres9, hres12, hres21, hres29, hres31, hres32, hres36, hc3, hc7, hc10, hc13, hc19, hc22, hc30, hc33], rfl, R36, FQ36⟩
       ·have hc30 := hB30
        refine w_skip ?_
        refine w_srP ?_
        refine o_mvP ?_
        exact o_clP rfl rfl tS rfl (fail_fin ho W0 W29 E29 src sv T tv rb G st29 x29 hS hT hO R29) rfl rfl (by rintro p H' ⟨rfl, X⟩; change _ ∧ _; exact ⟨rfl, _, by simp [pTyp, pmD, hres6, hres9, hres12, hres21, hres29, hc3, hc7, hc10, hc13, hc19, hc22, hc30], rfl, X.wf, E29.trans X, _, FF29.trans WS (Fr2.ofExt X)⟩) (fun _ _ h => False.elim h)
end Go.Proofs.Ytehmhhlhlipbnaa.Vs
