/-
 Parts of the parser that lay no lists.
-/
import Derived.Test.YtehmhhlhlipbnaaParse5
set_option autoImplicit false
set_option linter.unusedVariables false
set_option linter.unusedSimpArgs false
set_option maxRecDepth 100000
set_option maxHeartbeats 4000000
namespace Go.Proofs.Ytehmhhlhlipbnaa.Vs
open Go.VI Go.Proofs
variable {orc : CallF}
theorem want_ct (ho : NoOrcBut [7, 21, 69, 81] orc) {H0 : AH} (W0 : Wf H0) (ho81 : ∃ sg, ∀ H, orc 81 [] H = some (.ret sg, H)) (tx : Nat → List UInt8) (ho69 : ∀ k : Nat, k < 67 → ∀ H, orc 69 [.int .i64 (k : Int)] H = some (.ret (.str (tx k)), H)) (src : List UInt8) (sv : AV) (T : List TK) (tv : AV) (rb : Nat) (hS : SB H0 5 src sv) (hT : TS H0 T tv) (hO : TOk src T) (t : List UInt8) : CT orc H0 sv tv T.length rb 49 [.str t] (mWant tx src T t) (AV.int .i64) :=
 fun HS WS ES G st x R _ => want_fin ho W0 WS ES ho81 tx ho69 src sv T tv rb G st x hS hT hO R t
theorem name_ct (ho : NoOrcBut [7, 21, 69, 81] orc) {H0 : AH} (W0 : Wf H0) (ho81 : ∃ sg, ∀ H, orc 81 [] H = some (.ret sg, H)) (tx : Nat → List UInt8) (ho69 : ∀ k : Nat, k < 67 → ∀ H, orc 69 [.int .i64 (k : Int)] H = some (.ret (.str (tx k)), H)) (src : List UInt8) (sv : AV) (T : List TK) (tv : AV) (rb : Nat) (hS : SB H0 5 src sv) (hT : TS H0 T tv) (hO : TOk src T) : CT orc H0 sv tv T.length rb 50 [] (mName src T) AV.str :=
 fun HS WS ES G st x R _ => name_fin ho W0 WS ES src sv T tv rb G st x hS hT hO R
theorem num_ct (ho : NoOrcBut [7, 21, 69, 81] orc) {H0 : AH} (W0 : Wf H0) (ho81 : ∃ sg, ∀ H, orc 81 [] H = some (.ret sg, H)) (tx : Nat → List UInt8) (ho69 : ∀ k : Nat, k < 67 → ∀ H, orc 69 [.int .i64 (k : Int)] H = some (.ret (.str (tx k)), H)) (src : List UInt8) (sv : AV) (T : List TK) (tv : AV) (rb : Nat) (hS : SB H0 5 src sv) (hT : TS H0 T tv) (hO : TOk src T) : CT orc H0 sv tv T.length rb 100 [] (mNum src T) (AV.int .i64) :=
 fun HS WS ES G st x R _ => number_fin2 ho W0 WS ES src sv T tv rb G st x hS hT hO R
theorem ended_fin (ho : NoOrcBut [7, 21, 69, 81] orc) {H0 HS : AH} (W0 : Wf H0) (WS : Wf HS) (ES : Ext H0 HS) (ho81 : ∃ sg, ∀ H, orc 81 [] H = some (.ret sg, H)) (tx : Nat → List UInt8) (ho69 : ∀ k : Nat, k < 67 → ∀ H, orc 69 [.int .i64 (k : Int)] H = some (.ret (.str (tx k)), H)) (src : List UInt8) (sv : AV) (T : List TK) (tv : AV) (rb : Nat) (G : LK → Prop) (st : PS) (x : LK) (hS : SB H0 5 src sv) (hT : TS H0 T tv) (hO : TOk src T) (hR : RS H0 sv tv T.length rb G HS st x) (k a : Int) (nm : List UInt8) (ks : List Int) (kv : AV) (hk0 : KL HS G ks kv) (hm : mEnd tx src T k a nm ks st ≠ none) : FinP Try.prog orc 76 [.ptr (.mt (rb)) (0), .int .i64 (k), .int .i64 (a), .str (nm), kv] HS (fun r H' => OkR H0 sv tv T.length rb G HS x (mEnd tx src T k a nm ks st) (AV.int .i64) r H') (fun r H' => BadR H0 rb HS x (mEnd tx src T k a nm ks st) r H') := by
 have E0 := ES
 obtain ⟨nv, hA, hN⟩ := hR.at_; have hr0 := hR.r0; have hTl := hO.len; have hal := hR.al; have hSb := hS.bound; have hrbl := WS.lt hA
 refine fin_ofP Try.func76 rfl (by rw [Try.ntmps76]; simp) (ho _ rfl _ _) ?_
 rw [Try.ntmps76]
 refine w_srP ?_
 refine o_asP ?_
 refine o_nilP ?_
 refine w_srP ?_
 refine o_mvP ?_
 refine o_clP rfl rfl tS rfl (want_ct ho W0 ho81 tx ho69 src sv T tv rb hS hT hO [59] _ WS E0 G st x hR (by intro h; exact hm (by simp [mEnd, pmD, h]))) rfl rfl (by rintro p H' ⟨ae, hbad, rfl, Wb, Eb, xb, Fb⟩; change _ ∧ _; exact ⟨rfl, ae, by simp [mEnd, pmD, hbad], rfl, Wb, Eb, xb, (Fr2.refl WS).trans WS Fb⟩) ?_; rintro _ H1 ⟨v1, st1, x1, hres1, rfl, R1, F1⟩
 obtain ⟨nv1, hA1, hN1⟩ := R1.at_
 have W1 := R1.w; have E1 := R1.e; have FF1 := (Fr2.refl WS).trans WS F1; have hal1 := R1.al
 refine o_nilP ?_
 refine w_srP ?_
 refine o_mvP ?_
 refine o_mvP ?_
 refine o_mvP ?_
 refine o_mvP ?_
 refine o_mvP ?_
 refine o_stepP ?_
 refine o_cl rfl rfl tS rfl (node_fin ho W0 W1 E1 src sv T tv rb G st1 x1 hS hT hO R1 (k) (a) (0) nm ks _ ((hk0.fr hR FF1).si (by have := (node_ok (k := k) (a := a) (n := 0) (nm := nm) (ks := ks) (st := st1) (by intro h; exact hm (by simp [mEnd, pmD, hres1, h]))).2; omega)) (node_ok (k := k) (a := a) (n := 0) (nm := nm) (ks := ks) (st := st1) (by intro h; exact hm (by simp [mEnd, pmD, hres1, h]))).1 (node_ok (k := k) (a := a) (n := 0) (nm := nm) (ks := ks) (st := st1) (by intro h; exact hm (by simp [mEnd, pmD, hres1, h]))).2) rfl rfl ?_; rintro _ H2 ⟨v2, st2, x2, hres2, rfl, R2, F2⟩
 obtain ⟨nv2, hA2, hN2⟩ := R2.at_
 have W2 := R2.w; have E2 := R2.e; have FF2 := FF1.trans WS F2; have hal2 := R2.al
 refine o_nil ?_
 refine o_asP ?_
 refine o_nilP ?_
 refine w_ret ?_
 change _ ∧ _
 refine ⟨rfl, .int .i64 (v2), (show resultA Try.prog [.tmp 10] _ = _ from tR), ?_⟩
 try dsimp only
 exact ⟨_, st2, x2, by simp [mEnd, pmD, hres1, hres2], rfl, R2, FF2⟩
theorem expr_fin (ho : NoOrcBut [7, 21, 69, 81] orc) {H0 HS : AH} (W0 : Wf H0) (WS : Wf HS) (ES : Ext H0 HS) (ho81 : ∃ sg, ∀ H, orc 81 [] H = some (.ret sg, H)) (tx : Nat → List UInt8) (ho69 : ∀ k : Nat, k < 67 → ∀ H, orc 69 [.int .i64 (k : Int)] H = some (.ret (.str (tx k)), H)) (src : List UInt8) (sv : AV) (T : List TK) (tv : AV) (rb : Nat) (G : LK → Prop) (st : PS) (x : LK) (hS : SB H0 5 src sv) (hT : TS H0 T tv) (hO : TOk src T) (hR : RS H0 sv tv T.length rb G HS st x) (f : Nat) (ih : ∀ g, g ≤ f → IH orc H0 sv tv rb tx src T g) (hm : pExpr tx src T (f + 1) st ≠ none) : FinP Try.prog orc 77 [.ptr (.mt (rb)) (0)] HS (fun r H' => OkR H0 sv tv T.length rb G HS x (pExpr tx src T (f + 1) st) (AV.int .i64) r H') (fun r H' => BadR H0 rb HS x (pExpr tx src T (f + 1) st) r H') := by
 have E0 := ES
 obtain ⟨nv, hA, hN⟩ := hR.at_; have hr0 := hR.r0; have hTl := hO.len; have hal := hR.al; have hSb := hS.bound; have hrbl := WS.lt hA
 refine fin_ofP Try.func77 rfl (by rw [Try.ntmps77]; simp) (ho _ rfl _ _) ?_
 rw [Try.ntmps77]
 refine w_srP ?_
 refine o_asP ?_
 refine o_nilP ?_
 refine w_srP ?_
 refine o_mvP ?_
 refine o_clP rfl rfl tS rfl ((ih f (by omega)).bin (1) (by omega) (by omega) _ WS E0 G st x hR (by intro h; exact hm (by simp [pExpr, pmD, h]))) rfl rfl (by rintro p H' ⟨ae, hbad, rfl, Wb, Eb, xb, Fb⟩; change _ ∧ _; exact ⟨rfl, ae, by simp [pExpr, pmD, hbad], rfl, Wb, Eb, xb, (Fr2.refl WS).trans WS Fb⟩) ?_; rintro _ H1 ⟨v1, st1, x1, hres1, rfl, R1, F1⟩
 obtain ⟨nv1, hA1, hN1⟩ := R1.at_
 have W1 := R1.w; have E1 := R1.e; have FF1 := (Fr2.refl WS).trans WS F1; have hal1 := R1.al
 refine o_asP ?_
 refine o_nilP ?_
 refine w_ret ?_
 change _ ∧ _
 refine ⟨rfl, .int .i64 (v1), (show resultA Try.prog [.tmp 2] _ = _ from tR), ?_⟩
 try dsimp only
 exact ⟨_, st1, x1, by simp [pExpr, pmD, hres1], rfl, R1, FF1⟩
theorem chan_fin (ho : NoOrcBut [7, 21, 69, 81] orc) {H0 HS : AH} (W0 : Wf H0) (WS : Wf HS) (ES : Ext H0 HS) (ho81 : ∃ sg, ∀ H, orc 81 [] H = some (.ret sg, H)) (tx : Nat → List UInt8) (ho69 : ∀ k : Nat, k < 67 → ∀ H, orc 69 [.int .i64 (k : Int)] H = some (.ret (.str (tx k)), H)) (src : List UInt8) (sv : AV) (T : List TK) (tv : AV) (rb : Nat) (G : LK → Prop) (st : PS) (x : LK) (hS : SB H0 5 src sv) (hT : TS H0 T tv) (hO : TOk src T) (hR : RS H0 sv tv T.length rb G HS st x) (f : Nat) (ih : ∀ g, g ≤ f → IH orc H0 sv tv rb tx src T g) (hm : pChan tx src T (f + 1) st ≠ none) : FinP Try.prog orc 73 [.ptr (.mt (rb)) (0)] HS (fun r H' => OkR H0 sv tv T.length rb G HS x (pChan tx src T (f + 1) st) (AV.int .i64) r H') (fun r H' => BadR H0 rb HS x (pChan tx src T (f + 1) st) r H') := by
 have E0 := ES
 obtain ⟨nv, hA, hN⟩ := hR.at_; have hr0 := hR.r0; have hTl := hO.len; have hal := hR.al; have hSb := hS.bound; have hrbl := WS.lt hA
 refine fin_ofP Try.func73 rfl (by rw [Try.ntmps73]; simp) (ho _ rfl _ _) ?_
 rw [Try.ntmps73]
 refine w_srP ?_
 refine o_asP ?_
 refine o_nilP ?_
 refine w_srP ?_
 refine o_mvP ?_
 refine o_clP rfl rfl tS rfl (want_ct ho W0 ho81 tx ho69 src sv T tv rb hS hT hO [99, 104, 97, 110] _ WS E0 G st x hR (by intro h; exact hm (by simp [pChan, pmD, h]))) rfl rfl (by rintro p H' ⟨ae, hbad, rfl, Wb, Eb, xb, Fb⟩; change _ ∧ _; exact ⟨rfl, ae, by simp [pChan, pmD, hbad], rfl, Wb, Eb, xb, (Fr2.refl WS).trans WS Fb⟩) ?_; rintro _ H1 ⟨v1, st1, x1, hres1, rfl, R1, F1⟩
 obtain ⟨nv1, hA1, hN1⟩ := R1.at_
 have W1 := R1.w; have E1 := R1.e; have FF1 := (Fr2.refl WS).trans WS F1; have hal1 := R1.al
 refine o_asP ?_
 refine o_nilP ?_
 refine w_srP ?_
 refine o_mvP ?_
 refine o_clP rfl rfl tS rfl (want_ct ho W0 ho81 tx ho69 src sv T tv rb hS hT hO [111, 102] _ W1 E1 G st1 x1 R1 (by intro h; exact hm (by simp [pChan, pmD, hres1, h]))) rfl rfl (by rintro p H' ⟨ae, hbad, rfl, Wb, Eb, xb, Fb⟩; change _ ∧ _; exact ⟨rfl, ae, by simp [pChan, pmD, hres1, hbad], rfl, Wb, Eb, xb, FF1.trans WS Fb⟩) ?_; rintro _ H2 ⟨v2, st2, x2, hres2, rfl, R2, F2⟩
 obtain ⟨nv2, hA2, hN2⟩ := R2.at_
 have W2 := R2.w; have E2 := R2.e; have FF2 := FF1.trans WS F2; have hal2 := R2.al
 refine o_nilP ?_
 refine w_srP ?_
 refine o_mvP ?_
 refine o_mvP ?_
 refine o_mvP ?_
 refine o_clP rfl rfl tS rfl ((ih f (by omega)).typ _ W2 E2 G st2 x2 R2 (by intro h; exact hm (by simp [pChan, pmD, hres1, hres2, h]))) rfl rfl (by rintro p H' ⟨ae, hbad, rfl, Wb, Eb, xb, Fb⟩; change _ ∧ _; exact ⟨rfl, ae, by simp [pChan, pmD, hres1, hres2, hbad], rfl, Wb, Eb, xb, FF2.trans WS Fb⟩) ?_; rintro _ H3 ⟨v3, st3, x3, hres3, rfl, R3, F3⟩
 obtain ⟨nv3, hA3, hN3⟩ := R3.at_
 have W3 := R3.w; have E3 := R3.e; have FF3 := FF2.trans WS F3; have hal3 := R3.al
 refine o_stepP ?_
 refine o_nw W3 (a_build1 Try.underlying39 Ty.csz3 Ty.zero3 rfl tE rfl (by decide)) rfl rfl rfl (by simp) ?_; intro H4 n4 W4 X4 A4
 have E4 := E3.trans X4
 have hA3 := X4.keep _ _ hA3
 have L4 : SI H4 [v3] (freshSl (H3.n) 1 1) := si_fresh (ks := [v3]) A4 (by simp)
 refine o_nil ?_
 refine o_stepP ?_
 refine o_cl rfl rfl tS rfl (node_fin ho W0 W4 E4 src sv T tv rb G st3 x3 hS hT hO (R3.ext X4) (6) (v1) (0) [] [v3] _ (L4) (node_ok (k := 6) (a := v1) (n := 0) (nm := []) (ks := [v3]) (st := st3) (by intro h; exact hm (by simp [pChan, pmD, hres1, hres2, hres3, h]))).1 (node_ok (k := 6) (a := v1) (n := 0) (nm := []) (ks := [v3]) (st := st3) (by intro h; exact hm (by simp [pChan, pmD, hres1, hres2, hres3, h]))).2) rfl rfl ?_; rintro _ H5 ⟨v5, st5, x5, hres5, rfl, R5, F5⟩
 obtain ⟨nv5, hA5, hN5⟩ := R5.at_
 have W5 := R5.w; have E5 := R5.e; have FF5 := (FF3.trans WS (Fr2.ofExt X4)).trans WS F5; have hal5 := R5.al
 refine o_nil ?_
 refine o_asP ?_
 refine o_nilP ?_
 refine w_ret ?_
 change _ ∧ _
 refine ⟨rfl, .int .i64 (v5), (show resultA Try.prog [.tmp 2] _ = _ from tR), ?_⟩
 try dsimp only
 exact ⟨_, st5, x5, by simp [pChan, pmD, hres1, hres2, hres3, hres5], rfl, R5, FF5⟩
end Go.Proofs.Ytehmhhlhlipbnaa.Vs
