/-
 The rest of the reader's functions.
-/
import Derived.Test.YtehmhhlhlipbnaaParse8
set_option autoImplicit false
set_option linter.unusedVariables false
set_option linter.unusedSimpArgs false
namespace Go.Proofs.Ytehmhhlhlipbnaa.Vs
open Go.VI Go.Proofs
variable {orc : CallF}
set_option maxRecDepth 100000 in
set_option maxHeartbeats 4000000 in
theorem res_fin (ho : NoOrcBut [7, 21, 69, 81] orc) {H0 HS : AH} (W0 : Wf H0) (WS : Wf HS) (ES : Ext H0 HS) (ho81 : ∃ sg, ∀ H, orc 81 [] H = some (.ret sg, H)) (tx : Nat → List UInt8) (ho69 : ∀ k : Nat, k < 67 → ∀ H, orc 69 [.int .i64 (k : Int)] H = some (.ret (.str (tx k)), H)) (src : List UInt8) (sv : AV) (T : List TK) (tv : AV) (rb : Nat) (G : LK → Prop) (st : PS) (x : LK) (hS : SB H0 5 src sv) (hT : TS H0 T tv) (hO : TOk src T) (y : LK) (k a : Int) (nm : List UInt8) (ks : List Int) (kv : AV) (hQ : KQ H0 H0.n sv tv T.length rb G HS st x ks kv y) (f : Nat) (ih : ∀ g, g ≤ f → IH orc H0 sv tv rb tx src T g) (hm : pRes tx src T (f + 1) k a nm ks st ≠ none) : FinP Try.prog orc 75 [.ptr (.mt (rb)) (0), .int .i64 (k), .int .i64 (a), .str (nm), kv] HS (fun r H' => ∃ v st' x' ks' y', pRes tx src T (f + 1) k a nm ks st = some (.ok (v, st')) ∧ r = .int .i64 v ∧ RS H0 sv tv T.length rb G H' st' x' ∧ Fr3 rb HS x ks y H' x' ks' y') (fun r H' => BadR3 H0 rb HS x ks y (pRes tx src T (f + 1) k a nm ks st) r H') := by
 have E0 := ES
 obtain ⟨nv, hA, hN⟩ := hQ.r.at_; have hr0 := hQ.r.r0; have hTl := hO.len; have hal := hQ.r.al; have hSb := hS.bound; have hrbl := WS.lt hA; have hlim : ks.length < 1000000000 := by have h := hm; simp only [pRes] at h; exact lim_ok h
 refine fin_ofP Try.func75 rfl (by rw [Try.ntmps75]; simp) (ho _ rfl _ _) ?_
 rw [Try.ntmps75]
 refine w_srP ?_
 refine o_asP ?_
 refine o_nilP ?_
 refine w_srP ?_
 refine o_asP ?_
 refine o_nilP ?_
 refine w_seq ?_
 refine w_srP ?_
 refine o_mvP ?_
 refine o_stepP ?_
 refine o_cl rfl rfl tS rfl (got_fin ho W0 WS E0 ho81 tx ho69 src sv T tv rb (GK G ks y) st x hS hT hO hQ.r [58]) rfl rfl ?_; rintro _ H1 ⟨v1, st1, x1, hres1, rfl, R1, F1⟩
 obtain ⟨nv1, hA1, hN1⟩ := R1.at_
 have W1 := R1.w; have E1 := R1.e; have FF1 := (Fr3.refl (rb := rb) (x := x) (ks := ks) (y := y) WS).fr WS F1; have hal1 := R1.al
 have Q1 := KQ.fr hQ R1 F1
 refine o_nil ?_
 refine o_nilP ?_
 refine w_cond tE (fun hB2 => ?_) (fun hB2 => ?_)
 ·have hc2 := hB2
  refine w_srP ?_
  refine o_asP ?_
  refine o_nilP ?_
  refine w_regionP ?_
  refine o_mvP ?_
  refine o_mvP ?_
  refine o_clP rfl rfl tS rfl ((ih f (by omega)).typ _ W1 E1 (GK G ks y) st1 x1 R1 (by intro h; exact hm (by simp [pRes, pmD, hres1, hc2, mLim, hlim, h]))) rfl rfl (by rintro p H' ⟨ae, hbad, rfl, Wb, Eb, xb, Fb⟩; change _ ∧ _; exact ⟨rfl, ae, by simp [pRes, pmD, hres1, hc2, mLim, hlim, hbad], rfl, Wb, Eb, xb, _, _, FF1.fr WS Fb⟩) ?_; rintro _ H3 ⟨v3, st3, x3, hres3, rfl, R3, F3⟩
  obtain ⟨nv3, hA3, hN3⟩ := R3.at_
  have W3 := R3.w; have E3 := R3.e; have FF3 := FF1.fr WS F3; have hal3 := R3.al
  have Q3 := KQ.fr Q1 R3 F3
  refine o_stepP ?_
  refine o_nw W3 (a_build1 Try.underlying39 Ty.csz3 Ty.zero3 rfl tE rfl (by decide)) rfl rfl rfl (by simp) ?_; intro H4 n4 W4 X4 A4
  have E4 := E3.trans X4
  have hA3 := X4.keep _ _ hA3
  refine o_nil ?_
  refine o_stepP ?_
  refine o_apK (n0 := H0.n) (vs := [v3]) W0 W4 (Q3.ext X4) E4.n (Nat.le_refl _) Try.underlying39 Try.underlying39 rfl Ty.csz3 Ty.byt3 Ty.zero3 rfl tE tE (src_fresh (n := 1) A4 rfl) (by simp) (by first | exact Nat.le_of_ble_eq_true rfl | (simp only [List.length_append, List.length_singleton]; omega)) rfl rfl ?_; intro kv5 H5 y5 Q5 A5
  obtain ⟨nv5, hA5, hN5⟩ := Q5.r.at_
  have W5 := Q5.r.w; have E5 := Q5.r.e; have FF5 := (FF3.fr WS (Fr2.ofExt X4)).app WS A5 (ks2 := (ks ++ [v3]))
  refine o_nil ?_
  refine o_asP ?_
  refine o_nilP ?_
  refine w_seq ?_
  refine w_srP ?_
  refine o_mvP ?_
  refine o_rdP (r_eq (a := k) (b := 20) tE tE) rfl rfl ?_
  refine o_nilP ?_
  refine w_cond tE (fun hB6 => ?_) (fun hB6 => ?_)
  ·have hc6 := dec_t hB6
   refine w_regionP ?_
   refine o_mvP ?_
   refine o_mvP ?_
   refine o_clP rfl rfl tS rfl ((ih f (by omega)).block _ W5 E5 (GK G (ks ++ [v3]) y5) st3 x3 Q5.r (by intro h; exact hm (by simp [pRes, pmD, hres1, hres3, hc2, if_pos hc6, mLim, hlim, h]))) rfl rfl (by rintro p H' ⟨ae, hbad, rfl, Wb, Eb, xb, Fb⟩; change _ ∧ _; exact ⟨rfl, ae, by simp [pRes, pmD, hres1, hres3, hc2, if_pos hc6, mLim, hlim, hbad], rfl, Wb, Eb, xb, _, _, FF5.fr WS Fb⟩) ?_; rintro _ H7 ⟨v7, st7, x7, hres7, rfl, R7, F7⟩
   obtain ⟨nv7, hA7, hN7⟩ := R7.at_
   have W7 := R7.w; have E7 := R7.e; have FF7 := FF5.fr WS F7; have hal7 := R7.al
   have Q7 := KQ.fr Q5 R7 F7
   refine o_stepP ?_
   refine o_nw W7 (a_build1 Try.underlying39 Ty.csz3 Ty.zero3 rfl tE rfl (by decide)) rfl rfl rfl (by simp) ?_; intro H8 n8 W8 X8 A8
   have E8 := E7.trans X8
   have hA7 := X8.keep _ _ hA7
   refine o_nil ?_
   refine o_stepP ?_
   refine o_apK (n0 := H0.n) (vs := [v7]) W0 W8 (Q7.ext X8) E8.n (Nat.le_refl _) Try.underlying39 Try.underlying39 rfl Ty.csz3 Ty.byt3 Ty.zero3 rfl tE tE (src_fresh (n := 1) A8 rfl) (by simp) (by first | exact Nat.le_of_ble_eq_true rfl | (simp only [List.length_append, List.length_singleton]; omega)) rfl rfl ?_; intro kv9 H9 y9 Q9 A9
   have Q9 : KQ H0 H0.n sv tv T.length rb G H9 st7 x7 (ks ++ [v3, v7]) kv9 y9 := by have h := Q9; rw [List.append_assoc] at h; exact h
   obtain ⟨nv9, hA9, hN9⟩ := Q9.r.at_
   have W9 := Q9.r.w; have E9 := Q9.r.e; have FF9 := (FF7.fr WS (Fr2.ofExt X8)).app WS A9 (ks2 := (ks ++ [v3, v7]))
   refine o_nil ?_
   refine o_asP ?_
   refine o_nilP ?_
   refine w_srP ?_
   refine o_mvP ?_
   refine o_mvP ?_
   refine o_mvP ?_
   refine o_mvP ?_
   refine o_mvP ?_
   refine o_mvP ?_
   refine o_stepP ?_
   refine o_cl rfl rfl tS rfl (node_fin ho W0 W9 E9 src sv T tv rb (GK G (ks ++ [v3, v7]) y9) st7 x7 hS hT hO Q9.r (k) (a) (1) nm (ks ++ [v3, v7]) _ ((Q9.kl.si (by have := (node_ok (k := k) (a := a) (n := 1) (nm := nm) (ks := (ks ++ [v3, v7])) (st := st7) (by intro h; exact hm (by simp [pRes, pmD, hres1, hres3, hres7, hc2, if_pos hc6, mLim, hlim, h]))).2; omega))) (node_ok (k := k) (a := a) (n := 1) (nm := nm) (ks := (ks ++ [v3, v7])) (st := st7) (by intro h; exact hm (by simp [pRes, pmD, hres1, hres3, hres7, hc2, if_pos hc6, mLim, hlim, h]))).1 (node_ok (k := k) (a := a) (n := 1) (nm := nm) (ks := (ks ++ [v3, v7])) (st := st7) (by intro h; exact hm (by simp [pRes, pmD, hres1, hres3, hres7, hc2, if_pos hc6, mLim, hlim, h]))).2) rfl rfl ?_; rintro _ H10 ⟨v10, st10, x10, hres10, rfl, R10, F10⟩
   obtain ⟨nv10, hA10, hN10⟩ := R10.at_
   have W10 := R10.w; have E10 := R10.e; have FF10 := FF9.fr WS F10; have hal10 := R10.al
   have Q10 := KQ.fr Q9 R10 F10
   refine o_nil ?_
   refine o_asP ?_
   refine o_nilP ?_
   refine w_ret ?_
   change _ ∧ _
   refine ⟨rfl, .int .i64 (v10), (show resultA Try.prog [.tmp 10] _ = _ from tR), ?_⟩
   try dsimp only
   exact ⟨_, st10, x10, _, _, by simp [pRes, pmD, hres1, hres3, hres7, hres10, hc2, if_pos hc6, mLim, hlim], rfl, (R10.anti (fun z hz => Or.inl hz)), FF10⟩
  ·have hc6 := dec_f hB6
   refine w_skip ?_
   refine w_srP ?_
   refine o_mvP ?_
   refine o_mvP ?_
   refine o_mvP ?_
   refine o_mvP ?_
   refine o_mvP ?_
   refine o_mvP ?_
   refine o_stepP ?_
   refine o_cl rfl rfl tS rfl (node_fin ho W0 W5 E5 src sv T tv rb (GK G (ks ++ [v3]) y5) st3 x3 hS hT hO Q5.r (k) (a) (1) nm (ks ++ [v3]) _ ((Q5.kl.si (by have := (node_ok (k := k) (a := a) (n := 1) (nm := nm) (ks := (ks ++ [v3])) (st := st3) (by intro h; exact hm (by simp [pRes, pmD, hres1, hres3, hc2, hc6, mLim, hlim, h]))).2; omega))) (node_ok (k := k) (a := a) (n := 1) (nm := nm) (ks := (ks ++ [v3])) (st := st3) (by intro h; exact hm (by simp [pRes, pmD, hres1, hres3, hc2, hc6, mLim, hlim, h]))).1 (node_ok (k := k) (a := a) (n := 1) (nm := nm) (ks := (ks ++ [v3])) (st := st3) (by intro h; exact hm (by simp [pRes, pmD, hres1, hres3, hc2, hc6, mLim, hlim, h]))).2) rfl rfl ?_; rintro _ H11 ⟨v11, st11, x11, hres11, rfl, R11, F11⟩
   obtain ⟨nv11, hA11, hN11⟩ := R11.at_
   have W11 := R11.w; have E11 := R11.e; have FF11 := FF5.fr WS F11; have hal11 := R11.al
   have Q11 := KQ.fr Q5 R11 F11
   refine o_nil ?_
   refine o_asP ?_
   refine o_nilP ?_
   refine w_ret ?_
   change _ ∧ _
   refine ⟨rfl, .int .i64 (v11), (show resultA Try.prog [.tmp 10] _ = _ from tR), ?_⟩
   try dsimp only
   exact ⟨_, st11, x11, _, _, by simp [pRes, pmD, hres1, hres3, hres11, hc2, hc6, mLim, hlim], rfl, (R11.anti (fun z hz => Or.inl hz)), FF11⟩
 ·have hc2 := hB2
  refine w_skip ?_
  refine w_seq ?_
  refine w_srP ?_
  refine o_mvP ?_
  refine o_rdP (r_eq (a := k) (b := 20) tE tE) rfl rfl ?_
  refine o_nilP ?_
  refine w_cond tE (fun hB12 => ?_) (fun hB12 => ?_)
  ·have hc12 := dec_t hB12
   refine w_regionP ?_
   refine o_mvP ?_
   refine o_mvP ?_
   refine o_clP rfl rfl tS rfl ((ih f (by omega)).block _ W1 E1 (GK G ks y) st1 x1 R1 (by intro h; exact hm (by simp [pRes, pmD, hres1, hc2, if_pos hc12, mLim, hlim, h]))) rfl rfl (by rintro p H' ⟨ae, hbad, rfl, Wb, Eb, xb, Fb⟩; change _ ∧ _; exact ⟨rfl, ae, by simp [pRes, pmD, hres1, hc2, if_pos hc12, mLim, hlim, hbad], rfl, Wb, Eb, xb, _, _, FF1.fr WS Fb⟩) ?_; rintro _ H13 ⟨v13, st13, x13, hres13, rfl, R13, F13⟩
   obtain ⟨nv13, hA13, hN13⟩ := R13.at_
   have W13 := R13.w; have E13 := R13.e; have FF13 := FF1.fr WS F13; have hal13 := R13.al
   have Q13 := KQ.fr Q1 R13 F13
   refine o_stepP ?_
   refine o_nw W13 (a_build1 Try.underlying39 Ty.csz3 Ty.zero3 rfl tE rfl (by decide)) rfl rfl rfl (by simp) ?_; intro H14 n14 W14 X14 A14
   have E14 := E13.trans X14
   have hA13 := X14.keep _ _ hA13
   refine o_nil ?_
   refine o_stepP ?_
   refine o_apK (n0 := H0.n) (vs := [v13]) W0 W14 (Q13.ext X14) E14.n (Nat.le_refl _) Try.underlying39 Try.underlying39 rfl Ty.csz3 Ty.byt3 Ty.zero3 rfl tE tE (src_fresh (n := 1) A14 rfl) (by simp) (by first | exact Nat.le_of_ble_eq_true rfl | (simp only [List.length_append, List.length_singleton]; omega)) rfl rfl ?_; intro kv15 H15 y15 Q15 A15
   obtain ⟨nv15, hA15, hN15⟩ := Q15.r.at_
   have W15 := Q15.r.w; have E15 := Q15.r.e; have FF15 := (FF13.fr WS (Fr2.ofExt X14)).app WS A15 (ks2 := (ks ++ [v13]))
   refine o_nil ?_
   refine o_asP ?_
   refine o_nilP ?_
   refine w_srP ?_
   refine o_mvP ?_
   refine o_mvP ?_
   refine o_mvP ?_
   refine o_mvP ?_
   refine o_mvP ?_
   refine o_mvP ?_
   refine o_stepP ?_
   refine o_cl rfl rfl tS rfl (node_fin ho W0 W15 E15 src sv T tv rb (GK G (ks ++ [v13]) y15) st13 x13 hS hT hO Q15.r (k) (a) (0) nm (ks ++ [v13]) _ ((Q15.kl.si (by have := (node_ok (k := k) (a := a) (n := 0) (nm := nm) (ks := (ks ++ [v13])) (st := st13) (by intro h; exact hm (by simp [pRes, pmD, hres1, hres13, hc2, if_pos hc12, mLim, hlim, h]))).2; omega))) (node_ok (k := k) (a := a) (n := 0) (nm := nm) (ks := (ks ++ [v13])) (st := st13) (by intro h; exact hm (by simp [pRes, pmD, hres1, hres13, hc2, if_pos hc12, mLim, hlim, h]))).1 (node_ok (k := k) (a := a) (n := 0) (nm := nm) (ks := (ks ++ [v13])) (st := st13) (by intro h; exact hm (by simp [pRes, pmD, hres1, hres13, hc2, if_pos hc12, mLim, hlim, h]))).2) rfl rfl ?_; rintro _ H16 ⟨v16, st16, x16, hres16, rfl, R16, F16⟩
   obtain ⟨nv16, hA16, hN16⟩ := R16.at_
   have W16 := R16.w; have E16 := R16.e; have FF16 := FF15.fr WS F16; have hal16 := R16.al
   have Q16 := KQ.fr Q15 R16 F16
   refine o_nil ?_
   refine o_asP ?_
   refine o_nilP ?_
   refine w_ret ?_
   change _ ∧ _
   refine ⟨rfl, .int .i64 (v16), (show resultA Try.prog [.tmp 10] _ = _ from tR), ?_⟩
   try dsimp only
   exact ⟨_, st16, x16, _, _, by simp [pRes, pmD, hres1, hres13, hres16, hc2, if_pos hc12, mLim, hlim], rfl, (R16.anti (fun z hz => Or.inl hz)), FF16⟩
  ·have hc12 := dec_f hB12
   refine w_skip ?_
   refine w_srP ?_
   refine o_mvP ?_
   refine o_mvP ?_
   refine o_mvP ?_
   refine o_mvP ?_
   refine o_mvP ?_
   refine o_mvP ?_
   refine o_stepP ?_
   refine o_cl rfl rfl tS rfl (node_fin ho W0 W1 E1 src sv T tv rb (GK G ks y) st1 x1 hS hT hO R1 (k) (a) (0) nm ks _ ((Q1.kl.si (by have := (node_ok (k := k) (a := a) (n := 0) (nm := nm) (ks := ks) (st := st1) (by intro h; exact hm (by simp [pRes, pmD, hres1, hc2, hc12, mLim, hlim, h]))).2; omega))) (node_ok (k := k) (a := a) (n := 0) (nm := nm) (ks := ks) (st := st1) (by intro h; exact hm (by simp [pRes, pmD, hres1, hc2, hc12, mLim, hlim, h]))).1 (node_ok (k := k) (a := a) (n := 0) (nm := nm) (ks := ks) (st := st1) (by intro h; exact hm (by simp [pRes, pmD, hres1, hc2, hc12, mLim, hlim, h]))).2) rfl rfl ?_; rintro _ H17 ⟨v17, st17, x17, hres17, rfl, R17, F17⟩
   obtain ⟨nv17, hA17, hN17⟩ := R17.at_
   have W17 := R17.w; have E17 := R17.e; have FF17 := FF1.fr WS F17; have hal17 := R17.al
   have Q17 := KQ.fr Q1 R17 F17
   refine o_nil ?_
   refine o_asP ?_
   refine o_nilP ?_
   refine w_ret ?_
   change _ ∧ _
   refine ⟨rfl, .int .i64 (v17), (show resultA Try.prog [.tmp 10] _ = _ from tR), ?_⟩
   try dsimp only
   exact ⟨_, st17, x17, _, _, by simp [pRes, pmD, hres1, hres17, hc2, hc12, mLim, hlim], rfl, (R17.anti (fun z hz => Or.inl hz)), FF17⟩
end Go.Proofs.Ytehmhhlhlipbnaa.Vs
