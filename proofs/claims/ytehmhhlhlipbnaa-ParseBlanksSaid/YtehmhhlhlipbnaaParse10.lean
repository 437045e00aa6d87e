/-
 All of the reader's functions, by the fuel; the whole program.
-/
import Derived.Test.YtehmhhlhlipbnaaParse9bin
import Derived.Test.YtehmhhlhlipbnaaParse9arm
import Derived.Test.YtehmhhlhlipbnaaParse9fork
import Derived.Test.YtehmhhlhlipbnaaParse9stm
import Derived.Test.YtehmhhlhlipbnaaParse9typ
import Derived.Test.YtehmhhlhlipbnaaParse9prim
import Derived.Test.YtehmhhlhlipbnaaParse9post
import Derived.Test.YtehmhhlhlipbnaaParse9prog
import Derived.Test.YtehmhhlhlipbnaaParse9res
set_option autoImplicit false
set_option linter.unusedVariables false
set_option linter.unusedSimpArgs false
namespace Go.Proofs.Ytehmhhlhlipbnaa.Vs
open Go.VI Go.Proofs
variable {orc : CallF}
theorem lim_ok2 {α β : Type} {ks : List Int} {st : PS} {k : Unit → PM α} {k2 : α → PM β} (h : bindP (bindP (mLim ks) k) k2 st ≠ none) : ks.length < 1000000000 := by
 by_cases c : ks.length < 1000000000
 ·exact c
 ·exact absurd (by simp [bindP, mLim, c]) h
theorem ih_all (ho : NoOrcBut [7, 21, 69, 81] orc) {H0 : AH} (W0 : Wf H0) (ho81 : ∃ sg, ∀ H, orc 81 [] H = some (.ret sg, H)) (tx : Nat → List UInt8) (ho69 : ∀ k : Nat, k < 67 → ∀ H, orc 69 [.int .i64 (k : Int)] H = some (.ret (.str (tx k)), H)) (src : List UInt8) (sv : AV) (T : List TK) (tv : AV) (rb : Nat) (hS : SB H0 5 src sv) (hT : TS H0 T tv) (hO : TOk src T) : ∀ (f : Nat), ∀ g, g ≤ f → IH orc H0 sv tv rb tx src T g := by
 intro f
 induction f with
 | zero =>
  intro g hg
  obtain rfl : g = 0 := by omega
  exact ⟨fun _ _ _ _ _ _ _ h => absurd rfl h, fun _ _ _ _ _ _ _ h => absurd rfl h, fun _ _ _ _ _ _ _ h => absurd rfl h, fun _ _ _ _ _ _ _ _ _ _ _ _ _ h => absurd rfl h, fun _ _ _ _ _ _ _ h => absurd rfl h, fun _ _ _ _ _ _ _ h => absurd rfl h, fun _ _ _ _ _ _ _ h => absurd rfl h, fun _ _ _ _ _ _ _ h => absurd rfl h, fun _ _ _ _ _ _ _ h => absurd rfl h, fun _ _ _ _ _ _ _ h => absurd rfl h, fun _ _ _ _ _ _ _ _ _ _ h => absurd rfl h, fun _ _ _ _ _ _ _ h => absurd rfl h, fun _ _ _ _ _ _ _ h => absurd rfl h, fun _ _ _ _ _ _ _ h => absurd rfl h, fun _ _ _ _ _ _ _ _ h => absurd rfl h, fun _ _ _ _ _ _ _ _ h => absurd rfl h⟩
 | succ f ih =>
  intro g hg
  by_cases c : g ≤ f
  ·exact ih g c
  obtain rfl : g = f + 1 := by omega
  exact
   {typ := fun HS WS ES G st x R h => typ_fin ho W0 WS ES ho81 tx ho69 src sv T tv rb G st x hS hT hO R f ih h
    chan := fun HS WS ES G st x R h => chan_fin ho W0 WS ES ho81 tx ho69 src sv T tv rb G st x hS hT hO R f ih h
    types := fun HS WS ES G st x R h => types_fin ho W0 WS ES ho81 tx ho69 src sv T tv rb G st x hS hT hO R f ih h
    res := fun HS WS ES G st x y k a nm ks kv Q h => res_fin ho W0 WS ES ho81 tx ho69 src sv T tv rb G st x hS hT hO y k a nm ks kv Q f ih h
    block := fun HS WS ES G st x R h => block_fin ho W0 WS ES ho81 tx ho69 src sv T tv rb G st x hS hT hO R f ih h
    stm := fun HS WS ES G st x R h => stm_fin ho W0 WS ES ho81 tx ho69 src sv T tv rb G st x hS hT hO R f ih h
    fork := fun HS WS ES G st x R h => fork_fin ho W0 WS ES ho81 tx ho69 src sv T tv rb G st x hS hT hO R f ih h
    choice := fun HS WS ES G st x R h => choice_fin ho W0 WS ES ho81 tx ho69 src sv T tv rb G st x hS hT hO R f ih h
    arm := fun HS WS ES G st x R h => arm_fin ho W0 WS ES ho81 tx ho69 src sv T tv rb G st x hS hT hO R f ih h
    expr := fun HS WS ES G st x R h => expr_fin ho W0 WS ES ho81 tx ho69 src sv T tv rb G st x hS hT hO R f ih h
    bin := fun lv h1 h6 HS WS ES G st x R h => bin_fin ho W0 WS ES ho81 tx ho69 src sv T tv rb G st x hS hT hO R f ih lv h1 h6 h
    un := fun HS WS ES G st x R h => un_fin ho W0 WS ES ho81 tx ho69 src sv T tv rb G st x hS hT hO R f ih h
    post := fun HS WS ES G st x R h => post_fin ho W0 WS ES ho81 tx ho69 src sv T tv rb G st x hS hT hO R f ih h
    prim := fun HS WS ES G st x R h => prim_fin ho W0 WS ES ho81 tx ho69 src sv T tv rb G st x hS hT hO R f ih h
    list := fun t HS WS ES G st x R h => list_fin ho W0 WS ES ho81 tx ho69 src sv T tv rb G st x hS hT hO R f ih t h
    prog := fun a HS WS ES G st x R h => prog_fin ho W0 WS ES ho81 tx ho69 src sv T tv rb G st x hS hT hO R f ih a h }
set_option maxRecDepth 100000 in
set_option maxHeartbeats 4000000 in
theorem program_fin (ho : NoOrcBut [7, 21, 69, 81] orc) {H0 HS : AH} (W0 : Wf H0) (WS : Wf HS) (ES : Ext H0 HS) (ho81 : ∃ sg, ∀ H, orc 81 [] H = some (.ret sg, H)) (tx : Nat → List UInt8) (ho69 : ∀ k : Nat, k < 67 → ∀ H, orc 69 [.int .i64 (k : Int)] H = some (.ret (.str (tx k)), H)) (src : List UInt8) (sv : AV) (T : List TK) (tv : AV) (rb : Nat) (G : LK → Prop) (st : PS) (x : LK) (hS : SB H0 5 src sv) (hT : TS H0 T tv) (hO : TOk src T) (hR : RS H0 sv tv T.length rb G HS st x) (f : Nat) (ih : ∀ g, g ≤ f → IH orc H0 sv tv rb tx src T g) (hm : pProgram tx src T f st ≠ none) : FinP Try.prog orc 30 [.ptr (.mt (rb)) (0)] HS (fun r H' => OkR H0 sv tv T.length rb G HS x (pProgram tx src T f st) (fun _ => .tup []) r H') (fun r H' => BadR H0 rb HS x (pProgram tx src T f st) r H') := by
 have E0 := ES
 obtain ⟨nv, hA, hN⟩ := hR.at_; have hr0 := hR.r0; have hTl := hO.len; have hal := hR.al; have hSb := hS.bound; have hrbl := WS.lt hA
 refine fin_ofP Try.func30 rfl (by rw [Try.ntmps30]; simp) (ho _ rfl _ _) ?_
 rw [Try.ntmps30]
 refine w_srP ?_
 refine o_asP ?_
 refine o_nilP ?_
 refine w_seq ?_
 refine w_block ?_
 refine w_loop (fun m s => ∃ (e : Env) (H : AH) (stL : PS) (xL : LK) (nvL : AV) (ksL : List Int) (kvL : AV) (yL : LK), s = ⟨e, H, []⟩ ∧ e.val 0 = .ptr (.mt (rb)) (0) ∧ e.val 2 = kvL ∧ Wf H ∧ Ext H0 H ∧ H.at (rb) = some (.row [sv, tv, .int .i64 (((stL.a : Nat) : Int)), nvL] 58 false none) ∧ (m ≤ f) ∧ (pProgram tx src T f st = bindP (pTop tx src T m ksL) (fun ks => pTop2 tx src T f ks.length ks) stL) ∧ (KQ H0 HS.n sv tv T.length rb G H stL xL ksL kvL yL) ∧ (Fr2 rb HS x H xL)) (f) ⟨_, HS, st, x, _, [], .nils, (0, none), rfl, tV, tV, WS, E0, hA, (Nat.le_refl _), (by simp [pProgram, pmD]), (KQ.start hR), (Fr2.refl WS)⟩ ?_
 intro m s hi
 obtain ⟨e, H1, stL, xL, nvL, ksL, kvL, yL, rfl, vt0, vt2, W1, E1, hA, hmle, heq, Q, F⟩ := hi
 have vA := And.intro vt0 vt2
 have l1_0 := W1.lt hA
 have hmL := hm; rw [heq] at hmL
 obtain ⟨fu, rfl⟩ : ∃ q, m = q + 1 := by cases m with | zero => exact absurd rfl hmL | succ q => exact ⟨q, rfl⟩
 have hlim : ksL.length < 1000000000 := by have h := hmL; simp only [pTop] at h; exact lim_ok2 h
 have halL := Q.r.al
 refine w_seq ?_
 refine w_srP ?_
 refine o_mvP ?_
 refine o_stepP ?_
 refine o_cl rfl rfl tS rfl (is_fin ho W0 W1 E1 ho81 tx ho69 src sv T tv rb (GK G ksL yL) stL xL hS hT hO Q.r [116, 121, 112, 101]) rfl rfl ?_; rintro _ H2 ⟨rfl, X2⟩
 have W2 := X2.wf; have E2 := E1.trans X2
 have hA := X2.keep _ _ hA
 have n2 := X2.n
 refine o_nil ?_
 refine o_nilP ?_
 refine w_cond tE (fun hB3 => ?_) (fun hB3 => ?_)
 ·have hc3 := hB3
  refine w_skip ?_
  refine w_block ?_
  refine w_srP ?_
  refine o_mvP ?_
  refine o_clP rfl rfl tS rfl (want_ct ho W0 ho81 tx ho69 src sv T tv rb hS hT hO [116, 121, 112, 101] _ W2 E2 (GK G ksL yL) stL xL (Q.r.ext X2) (by intro h; exact hmL (by simp [pTop, pmD, hc3, mLim, hlim, h]))) rfl rfl (by rintro p H' ⟨ae, hbad, rfl, Wb, Eb, xb, Fb⟩; change _ ∧ _; exact ⟨rfl, ae, by rw [heq]; simp [pTop, pmD, hc3, mLim, hlim, hbad], rfl, Wb, Eb, xb, (F.trans WS (Fr2.ofExt X2)).trans WS Fb⟩) ?_; rintro _ H4 ⟨v4, st4, x4, hres4, rfl, R4, F4⟩
  obtain ⟨nv4, hA4, hN4⟩ := R4.at_
  have W4 := R4.w; have E4 := R4.e; have FF4 := (F.trans WS (Fr2.ofExt X2)).trans WS F4; have hal4 := R4.al
  have Q4 := KQ.fr (Q.ext X2) R4 F4
  refine o_asP ?_
  refine o_nilP ?_
  refine w_srP ?_
  refine o_mvP ?_
  refine o_clP rfl rfl tS rfl (name_ct ho W0 ho81 tx ho69 src sv T tv rb hS hT hO _ W4 E4 (GK G ksL yL) st4 x4 R4 (by intro h; exact hmL (by simp [pTop, pmD, hres4, hc3, mLim, hlim, h]))) rfl rfl (by rintro p H' ⟨ae, hbad, rfl, Wb, Eb, xb, Fb⟩; change _ ∧ _; exact ⟨rfl, ae, by rw [heq]; simp [pTop, pmD, hres4, hc3, mLim, hlim, hbad], rfl, Wb, Eb, xb, FF4.trans WS Fb⟩) ?_; rintro _ H5 ⟨v5, st5, x5, hres5, rfl, R5, F5⟩
  obtain ⟨nv5, hA5, hN5⟩ := R5.at_
  have W5 := R5.w; have E5 := R5.e; have FF5 := FF4.trans WS F5; have hal5 := R5.al
  have Q5 := KQ.fr Q4 R5 F5
  refine o_asP ?_
  refine o_nilP ?_
  refine w_srP ?_
  refine o_mvP ?_
  refine o_clP rfl rfl tS rfl (want_ct ho W0 ho81 tx ho69 src sv T tv rb hS hT hO [61] _ W5 E5 (GK G ksL yL) st5 x5 R5 (by intro h; exact hmL (by simp [pTop, pmD, hres4, hres5, hc3, mLim, hlim, h]))) rfl rfl (by rintro p H' ⟨ae, hbad, rfl, Wb, Eb, xb, Fb⟩; change _ ∧ _; exact ⟨rfl, ae, by rw [heq]; simp [pTop, pmD, hres4, hres5, hc3, mLim, hlim, hbad], rfl, Wb, Eb, xb, FF5.trans WS Fb⟩) ?_; rintro _ H6 ⟨v6, st6, x6, hres6, rfl, R6, F6⟩
  obtain ⟨nv6, hA6, hN6⟩ := R6.at_
  have W6 := R6.w; have E6 := R6.e; have FF6 := FF5.trans WS F6; have hal6 := R6.al
  have Q6 := KQ.fr Q5 R6 F6
  refine o_nilP ?_
  refine w_srP ?_
  refine o_mvP ?_
  refine o_clP rfl rfl tS rfl ((ih fu (by omega)).typ _ W6 E6 (GK G ksL yL) st6 x6 R6 (by intro h; exact hmL (by simp [pTop, pmD, hres4, hres5, hres6, hc3, mLim, hlim, h]))) rfl rfl (by rintro p H' ⟨ae, hbad, rfl, Wb, Eb, xb, Fb⟩; change _ ∧ _; exact ⟨rfl, ae, by rw [heq]; simp [pTop, pmD, hres4, hres5, hres6, hc3, mLim, hlim, hbad], rfl, Wb, Eb, xb, FF6.trans WS Fb⟩) ?_; rintro _ H7 ⟨v7, st7, x7, hres7, rfl, R7, F7⟩
  obtain ⟨nv7, hA7, hN7⟩ := R7.at_
  have W7 := R7.w; have E7 := R7.e; have FF7 := FF6.trans WS F7; have hal7 := R7.al
  have Q7 := KQ.fr Q6 R7 F7
  refine o_asP ?_
  refine o_nilP ?_
  refine w_srP ?_
  refine o_mvP ?_
  refine o_clP rfl rfl tS rfl (want_ct ho W0 ho81 tx ho69 src sv T tv rb hS hT hO [59] _ W7 E7 (GK G ksL yL) st7 x7 R7 (by intro h; exact hmL (by simp [pTop, pmD, hres4, hres5, hres6, hres7, hc3, mLim, hlim, h]))) rfl rfl (by rintro p H' ⟨ae, hbad, rfl, Wb, Eb, xb, Fb⟩; change _ ∧ _; exact ⟨rfl, ae, by rw [heq]; simp [pTop, pmD, hres4, hres5, hres6, hres7, hc3, mLim, hlim, hbad], rfl, Wb, Eb, xb, FF7.trans WS Fb⟩) ?_; rintro _ H8 ⟨v8, st8, x8, hres8, rfl, R8, F8⟩
  obtain ⟨nv8, hA8, hN8⟩ := R8.at_
  have W8 := R8.w; have E8 := R8.e; have FF8 := FF7.trans WS F8; have hal8 := R8.al
  have Q8 := KQ.fr Q7 R8 F8
  refine o_nilP ?_
  refine w_regionP ?_
  refine o_mvP ?_
  refine o_mvP ?_
  refine o_mvP ?_
  refine o_mvP ?_
  refine o_mvP ?_
  refine o_stepP ?_
  refine o_nw W8 (a_build1 Try.underlying39 Ty.csz3 Ty.zero3 rfl tE rfl (by decide)) rfl rfl rfl (by simp) ?_; intro H9 n9 W9 X9 A9
  have E9 := E8.trans X9
  have hA8 := X9.keep _ _ hA8
  have L9 : SI H9 [v7] (freshSl (H8.n) 1 1) := si_fresh (ks := [v7]) A9 (by simp)
  refine o_nil ?_
  refine o_stepP ?_
  refine o_cl rfl rfl tS rfl (node_fin ho W0 W9 E9 src sv T tv rb (GK G ksL yL) st8 x8 hS hT hO (R8.ext X9) (45) (v4) (0) v5 [v7] _ (L9) (node_ok (k := 45) (a := v4) (n := 0) (nm := v5) (ks := [v7]) (st := st8) (by intro h; exact hmL (by simp [pTop, pmD, hres4, hres5, hres6, hres7, hres8, hc3, mLim, hlim, h]))).1 (node_ok (k := 45) (a := v4) (n := 0) (nm := v5) (ks := [v7]) (st := st8) (by intro h; exact hmL (by simp [pTop, pmD, hres4, hres5, hres6, hres7, hres8, hc3, mLim, hlim, h]))).2) rfl rfl ?_; rintro _ H10 ⟨v10, st10, x10, hres10, rfl, R10, F10⟩
  obtain ⟨nv10, hA10, hN10⟩ := R10.at_
  have W10 := R10.w; have E10 := R10.e; have FF10 := (FF8.trans WS (Fr2.ofExt X9)).trans WS F10; have hal10 := R10.al
  have Q10 := KQ.fr (Q8.ext X9) R10 F10
  refine o_nil ?_
  refine o_stepP ?_
  refine o_nw W10 (a_build1 Try.underlying39 Ty.csz3 Ty.zero3 rfl tE rfl (by decide)) rfl rfl rfl (by simp) ?_; intro H11 n11 W11 X11 A11
  have E11 := E10.trans X11
  have hA10 := X11.keep _ _ hA10
  refine o_nil ?_
  refine o_stepP ?_
  refine o_apK (n0 := HS.n) (vs := [v10]) W0 W11 (Q10.ext X11) (FF10.trans WS (Fr2.ofExt X11)).n ES.n Try.underlying39 Try.underlying39 rfl Ty.csz3 Ty.byt3 Ty.zero3 rfl tE tE (src_fresh (n := 1) A11 rfl) (by simp) (by first | exact Nat.le_of_ble_eq_true rfl | (simp only [List.length_append, List.length_singleton]; omega)) rfl rfl ?_; intro kv12 H12 y12 Q12 A12
  obtain ⟨nv12, hA12, hN12⟩ := Q12.r.at_
  have W12 := Q12.r.w; have E12 := Q12.r.e; have FF12 := (FF10.trans WS (Fr2.ofExt X11)).app WS (Q10.ext X11) A12
  refine o_nil ?_
  refine o_asP ?_
  refine o_nilP ?_
  exact ⟨fu, (by omega), _, H12, st10, x10, nv12, (ksL ++ [v10]), kv12, y12, rfl, tV, tV, W12, E12, hA12, (by omega), (heq.trans (by simp [pTop, pmD, hres4, hres5, hres6, hres7, hres8, hres10, hc3, mLim, hlim])), Q12, FF12⟩
 ·have hc3 := hB3
  first | refine w_exit (blk_exit ?_) | refine w_exit (show (0 = 0 → _) ∧ (0 ≠ 0 → _) from ⟨fun _ => ?_, fun c => absurd rfl c⟩)
  refine w_srP ?_
  refine o_mvP ?_
  refine o_rdP (r_len (n := ksL.length) Try.underlying39 tE (Q.ext X2).lenOf) rfl rfl ?_
  refine o_asP ?_
  refine o_nilP ?_
  refine w_seq ?_
  refine w_block ?_
  refine w_loop (fun m s => ∃ (e : Env) (H : AH) (stL2 : PS) (xL2 : LK) (nvL2 : AV) (ksL2 : List Int) (kvL2 : AV) (yL2 : LK), s = ⟨e, H, []⟩ ∧ e.val 0 = .ptr (.mt (rb)) (0) ∧ e.val 2 = kvL2 ∧ e.val 6 = .int .i64 (((ksL.length : Nat) : Int)) ∧ Wf H ∧ Ext H0 H ∧ H.at (rb) = some (.row [sv, tv, .int .i64 (((stL2.a : Nat) : Int)), nvL2] 58 false none) ∧ (m ≤ f) ∧ (pProgram tx src T f st = pTop2 tx src T m ((ksL.length : Nat) : Int) ksL2 stL2) ∧ (KQ H0 HS.n sv tv T.length rb G H stL2 xL2 ksL2 kvL2 yL2) ∧ (Fr2 rb HS x H xL2)) (f) ⟨_, H2, stL, xL, _, ksL, kvL, yL, rfl, tV, tV, tV, W2, E2, hA, (Nat.le_refl _), (heq.trans (by simp [pTop, pmD, hc3, mLim, hlim])), (Q.ext X2), (F.trans WS (Fr2.ofExt X2))⟩ ?_
  intro m s hi
  obtain ⟨e, H13, stL2, xL2, nvL2, ksL2, kvL2, yL2, rfl, vt0, vt2, vt6, W13, E13, hA, hmle2, heq2, Q2, F2⟩ := hi
  have vA := And.intro vt0 (And.intro vt2 vt6)
  have l13_0 := W13.lt hA
  have hmL2 := hm; rw [heq2] at hmL2
  obtain ⟨fu2, rfl⟩ : ∃ q, m = q + 1 := by cases m with | zero => exact absurd rfl hmL2 | succ q => exact ⟨q, rfl⟩
  have hlim2 : ksL2.length < 1000000000 := by have h := hmL2; simp only [pTop2] at h; exact lim_ok h
  have halL2 := Q2.r.al
  refine w_seq ?_
  refine w_seq ?_
  refine w_draw (ms := [0, 1, 3, 7, 0, 16, 48, 112, 240, 511]) (ord := [0, 1, 2, 3, 4, 5, 6, 7, 8, 9]) (by kernel_rfl) (by kernel_rfl) (by kernel_rfl) ?_
  refine d_rd rfl (r_move tE) rfl rfl ?_
  refine d_rd rfl (r_nilChk tE) rfl rfl ?_
  refine d_rd rfl (r_fieldAddr Ty.fo58_2 tE) rfl rfl ?_
  refine d_rd rfl (r_load1 (v := .int .i64 (((stL2.a : Nat) : Int))) Ty.agg3 tE (read_mt hA (Nat.le_of_ble_eq_true rfl))) rfl rfl ?_
  refine d_rd rfl (r_move tE) rfl rfl ?_
  refine d_rd rfl (r_nilChk tE) rfl rfl ?_
  refine d_rd rfl (r_fieldAddr Ty.fo58_1 tE) rfl rfl ?_
  refine d_rd rfl (r_load1 (v := tv) Ty.agg43 tE (read_mt hA (Nat.le_of_ble_eq_true rfl))) rfl rfl ?_
  refine d_rd rfl (r_len (n := T.length) Try.underlying43 tE hT.lenOf) rfl rfl ?_
  refine d_rd rfl (r_lt (a := ((stL2.a : Nat) : Int)) (b := ((T.length : Nat) : Int)) tE tE) rfl rfl ?_
  refine d_nil ?_
  refine w_cond tE (fun hB14 => ?_) (fun hB14 => ?_)
  ·have hc14 := (show stL2.a < T.length by have h := dec_t hB14; omega)
   refine w_skip ?_
   refine w_block ?_
   refine w_regionP ?_
   refine o_mvP ?_
   refine o_mvP ?_
   refine o_clP rfl rfl tS rfl ((ih fu2 (by omega)).stm _ W13 E13 (GK G ksL2 yL2) stL2 xL2 Q2.r (by intro h; exact hmL2 (by simp [pTop2, pmD, hc14, mLim, hlim, mLim, hlim2, h]))) rfl rfl (by rintro p H' ⟨ae, hbad, rfl, Wb, Eb, xb, Fb⟩; change _ ∧ _; exact ⟨rfl, ae, by rw [heq2]; simp [pTop2, pmD, hc14, mLim, hlim, mLim, hlim2, hbad], rfl, Wb, Eb, xb, F2.trans WS Fb⟩) ?_; rintro _ H15 ⟨v15, st15, x15, hres15, rfl, R15, F15⟩
   obtain ⟨nv15, hA15, hN15⟩ := R15.at_
   have W15 := R15.w; have E15 := R15.e; have FF15 := F2.trans WS F15; have hal15 := R15.al
   have Q15 := KQ.fr Q2 R15 F15
   refine o_stepP ?_
   refine o_nw W15 (a_build1 Try.underlying39 Ty.csz3 Ty.zero3 rfl tE rfl (by decide)) rfl rfl rfl (by simp) ?_; intro H16 n16 W16 X16 A16
   have E16 := E15.trans X16
   have hA15 := X16.keep _ _ hA15
   refine o_nil ?_
   refine o_stepP ?_
   refine o_apK (n0 := HS.n) (vs := [v15]) W0 W16 (Q15.ext X16) (FF15.trans WS (Fr2.ofExt X16)).n ES.n Try.underlying39 Try.underlying39 rfl Ty.csz3 Ty.byt3 Ty.zero3 rfl tE tE (src_fresh (n := 1) A16 rfl) (by simp) (by first | exact Nat.le_of_ble_eq_true rfl | (simp only [List.length_append, List.length_singleton]; omega)) rfl rfl ?_; intro kv17 H17 y17 Q17 A17
   obtain ⟨nv17, hA17, hN17⟩ := Q17.r.at_
   have W17 := Q17.r.w; have E17 := Q17.r.e; have FF17 := (FF15.trans WS (Fr2.ofExt X16)).app WS (Q15.ext X16) A17
   refine o_nil ?_
   refine o_asP ?_
   refine o_nilP ?_
   exact ⟨fu2, (by omega), _, H17, st15, x15, nv17, (ksL2 ++ [v15]), kv17, y17, rfl, tV, tV, tV, W17, E17, hA17, (by omega), (heq2.trans (by simp [pTop2, pmD, hres15, hc14, mLim, hlim, mLim, hlim2])), Q17, FF17⟩
  ·have hc14 := (show ¬ stL2.a < T.length by have h := dec_f hB14; omega)
   first | refine w_exit (blk_exit ?_) | refine w_exit (show (2 = 2 → _) ∧ (2 ≠ 2 → _) from ⟨fun _ => ?_, fun c => absurd rfl c⟩)
   refine w_regionP ?_
   refine o_mvP ?_
   refine o_mvP ?_
   refine o_mvP ?_
   refine o_stepP ?_
   refine o_cl rfl rfl tS rfl (node_fin ho W0 W13 E13 src sv T tv rb (GK G ksL2 yL2) stL2 xL2 hS hT hO Q2.r (46) (0) (((ksL.length : Nat) : Int)) [] ksL2 _ ((Q2.kl.si (by have := (node_ok (k := 46) (a := 0) (n := ((ksL.length : Nat) : Int)) (nm := []) (ks := ksL2) (st := stL2) (by intro h; exact hmL2 (by simp [pTop2, pmD, hc14, mLim, hlim, mLim, hlim2, h]))).2; omega))) (node_ok (k := 46) (a := 0) (n := ((ksL.length : Nat) : Int)) (nm := []) (ks := ksL2) (st := stL2) (by intro h; exact hmL2 (by simp [pTop2, pmD, hc14, mLim, hlim, mLim, hlim2, h]))).1 (node_ok (k := 46) (a := 0) (n := ((ksL.length : Nat) : Int)) (nm := []) (ks := ksL2) (st := stL2) (by intro h; exact hmL2 (by simp [pTop2, pmD, hc14, mLim, hlim, mLim, hlim2, h]))).2) rfl rfl ?_; rintro _ H18 ⟨v18, st18, x18, hres18, rfl, R18, F18⟩
   obtain ⟨nv18, hA18, hN18⟩ := R18.at_
   have W18 := R18.w; have E18 := R18.e; have FF18 := F2.trans WS F18; have hal18 := R18.al
   have Q18 := KQ.fr Q2 R18 F18
   refine o_nil ?_
   refine o_nilP ?_
   change _ ∧ _
   refine ⟨rfl, .tup [], (show resultA Try.prog [] _ = _ from tR), ?_⟩
   try dsimp only
   exact ⟨v18, st18, x18, by rw [heq2]; simp [pTop2, pmD, hres18, hc14, mLim, hlim, mLim, hlim2], rfl, (R18.anti (fun z hz => Or.inl hz)), FF18⟩
end Go.Proofs.Ytehmhhlhlipbnaa.Vs
