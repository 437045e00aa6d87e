/-
 The reader: single tokens that are wanted.
-/
import Derived.Test.YtehmhhlhlipbnaaParse1
import Derived.Test.YtehmhhlhlipbnaaVjT
set_option autoImplicit false
set_option linter.unusedVariables false
set_option linter.unusedSimpArgs false
set_option maxRecDepth 100000
set_option maxHeartbeats 4000000
namespace Go.Proofs.Ytehmhhlhlipbnaa.Vs
open Go.VI Go.Proofs
variable {orc : CallF}
def mPlace (src : List UInt8) (T : List TK) : PM Int := fun s => some (.ok (plF src T s.a, s))
def mKnd (T : List TK) : PM Int := fun s => some (.ok (knF T s.a, s))
def mFail {α : Type} (src : List UInt8) (T : List TK) : PM α := fun s => some (.error (plF src T s.a))
def mWant (tx : Nat → List UInt8) (src : List UInt8) (T : List TK) (t : List UInt8) : PM Int := bindP (mPlace src T) fun a => bindP (mGot tx T t) fun b => if b = true then pureP a else mFail src T
def tkF (src : List UInt8) (t : TK) : List UInt8 := (src.drop t.at_.toNat).take t.len.toNat
def mTake {α : Type} (T : List TK) (f : TK → α) : PM α := fun s => match T[s.a]? with | some t => some (.ok (f t, { s with a := s.a + 1 })) | none => none
def mName (src : List UInt8) (T : List TK) : PM (List UInt8) := bindP (mKnd T) fun k => if k = 1 then mTake T (tkF src) else mFail src T
def mNum (src : List UInt8) (T : List TK) : PM Int := bindP (mKnd T) fun k => if k = 2 then mTake T (·.num) else mFail src T
theorem take_at {α : Type} {T : List TK} {f : TK → α} {s : PS} (h : s.a < T.length) : mTake T f s = some (.ok (f T[s.a], { s with a := s.a + 1 })) := by simp only [mTake, List.getElem?_eq_getElem h]
theorem RS.step {H0 HS H H' : AH} {sv tv : AV} {tn rb : Nat} {G : LK → Prop} {st : PS} {x : LK} {nv : AV} {a : Nat} (R : RS H0 sv tv tn rb G HS st x) (X : Ext HS H) (hN : NX H0 HS rb G st.ns nv x) (K : Keeps H H' rb none) (hn : H'.n = H.n) (W : Wf H') (E : Ext H0 H') (ha : a ≤ tn)
  (hA : H'.at rb = some (.row [sv, tv, .int .i64 ((a : Nat) : Int), nv] 58 false none)) : RS H0 sv tv tn rb G H' ⟨a, st.ns⟩ x ∧ Fr2 rb HS x H' x := by
 have hX := X.n
 exact ⟨⟨W, E, R.r0, ha, ⟨nv, hA, (hN.ext X).put K⟩, fun y hy => ⟨(R.g y hy).1, by have := (R.g y hy).2.1; omega, fun g hg => by have := (R.g y hy).2.2 g hg; omega⟩⟩, Fr2.trans (Ext.wf (Ext.refl R.w)) (Fr2.ofExt X) (Fr2.put K hn)⟩
theorem want_fin (ho : NoOrcBut [7, 21, 69, 81] orc) {H0 HS : AH} (W0 : Wf H0) (WS : Wf HS) (ES : Ext H0 HS) (ho81 : ∃ sg, ∀ H, orc 81 [] H = some (.ret sg, H)) (tx : Nat → List UInt8) (ho69 : ∀ k : Nat, k < 67 → ∀ H, orc 69 [.int .i64 (k : Int)] H = some (.ret (.str (tx k)), H)) (src : List UInt8) (sv : AV) (T : List TK) (tv : AV) (rb : Nat) (G : LK → Prop) (st : PS) (x : LK) (hS : SB H0 5 src sv) (hT : TS H0 T tv) (hO : TOk src T) (hR : RS H0 sv tv T.length rb G HS st x) (t : List UInt8) : FinP Try.prog orc 49 [.ptr (.mt (rb)) (0), .str (t)] HS (fun r H' => OkR H0 sv tv T.length rb G HS x (mWant tx src T t st) (AV.int .i64) r H') (fun r H' => BadR H0 rb HS x (mWant tx src T t st) r H') := by
 have E0 := ES
 obtain ⟨nv, hA, hN⟩ := hR.at_; have hr0 := hR.r0; have hTl := hO.len; have hal := hR.al; have hSb := hS.bound; have hrbl := WS.lt hA
 refine fin_ofP Try.func49 rfl (by rw [Try.ntmps49]; simp) (ho _ rfl _ _) ?_
 rw [Try.ntmps49]
 refine w_srP ?_
 refine o_asP ?_
 refine o_nilP ?_
 refine w_srP ?_
 refine o_mvP ?_
 refine o_stepP ?_
 refine o_cl rfl rfl tS rfl (place_fin ho W0 WS E0 src sv T tv rb G st x hS hT hO hR) rfl rfl ?_; rintro _ H1 ⟨rfl, X1⟩
 have W1 := X1.wf; have E1 := E0.trans X1
 have hA := X1.keep _ _ hA
 have n1 := X1.n
 refine o_nil ?_
 refine o_asP ?_
 refine o_nilP ?_
 refine w_seq ?_
 refine w_srP ?_
 refine o_mvP ?_
 refine o_mvP ?_
 refine o_stepP ?_
 refine o_cl rfl rfl tS rfl (got_fin ho W0 W1 E1 ho81 tx ho69 src sv T tv rb G st x hS hT hO (hR.ext X1) t) rfl rfl ?_; rintro _ H2 ⟨v2, st2, x2, hres2, rfl, R2, F2⟩
 obtain ⟨nv2, hA2, hN2⟩ := R2.at_
 have W2 := R2.w; have E2 := R2.e; have FF2 := ((Fr2.refl WS).trans WS (Fr2.ofExt X1)).trans WS F2; have hal2 := R2.al
 refine o_nil ?_
 refine o_rdP (r_not tE) rfl rfl ?_
 refine o_nilP ?_
 refine w_cond tE (fun hB3 => ?_) (fun hB3 => ?_)
 ·have hc3 := (not_t hB3)
  refine w_regionP ?_
  refine o_mvP ?_
  exact o_clP rfl rfl tS rfl (fail_fin ho W0 W2 E2 src sv T tv rb G st2 x2 hS hT hO R2) rfl rfl (by rintro p H' ⟨rfl, X⟩; change _ ∧ _; exact ⟨rfl, _, by simp [mWant, bindP, pureP, mPlace, mKnd, mFail, hres2, hc3], rfl, X.wf, E2.trans X, _, FF2.trans WS (Fr2.ofExt X)⟩) (fun _ _ h => False.elim h)
 ·have hc3 := (not_f hB3)
  refine w_skip ?_
  refine w_srP ?_
  refine o_mvP ?_
  refine o_asP ?_
  refine o_nilP ?_
  refine w_ret ?_
  change _ ∧ _
  refine ⟨rfl, .int .i64 (plF src T st.a), (show resultA Try.prog [.tmp 4] _ = _ from tR), ?_⟩
  try dsimp only
  exact ⟨_, st2, x2, by simp [mWant, bindP, pureP, mPlace, mKnd, mFail, hres2, hc3], rfl, R2, FF2⟩
theorem name_fin (ho : NoOrcBut [7, 21, 69, 81] orc) {H0 HS : AH} (W0 : Wf H0) (WS : Wf HS) (ES : Ext H0 HS) (src : List UInt8) (sv : AV) (T : List TK) (tv : AV) (rb : Nat) (G : LK → Prop) (st : PS) (x : LK) (hS : SB H0 5 src sv) (hT : TS H0 T tv) (hO : TOk src T) (hR : RS H0 sv tv T.length rb G HS st x)  : FinP Try.prog orc 50 [.ptr (.mt (rb)) (0)] HS (fun r H' => OkR H0 sv tv T.length rb G HS x (mName src T st) AV.str r H') (fun r H' => BadR H0 rb HS x (mName src T st) r H') := by
 have E0 := ES
 obtain ⟨nv, hA, hN⟩ := hR.at_; have hr0 := hR.r0; have hTl := hO.len; have hal := hR.al; have hSb := hS.bound; have hrbl := WS.lt hA
 refine fin_ofP Try.func50 rfl (by rw [Try.ntmps50]; simp) (ho _ rfl _ _) ?_
 rw [Try.ntmps50]
 refine w_srP ?_
 refine o_asP ?_
 refine o_nilP ?_
 refine w_seq ?_
 refine w_srP ?_
 refine o_mvP ?_
 refine o_stepP ?_
 refine o_cl rfl rfl tS rfl (knd_fin ho W0 WS E0 src sv T tv rb G st x hS hT hO hR) rfl rfl ?_; rintro _ H1 ⟨rfl, X1⟩
 have W1 := X1.wf; have E1 := E0.trans X1
 have hA := X1.keep _ _ hA
 have n1 := X1.n
 refine o_nil ?_
 refine o_rdP (r_ne (a := knF T st.a) (b := 1) tE tE) rfl rfl ?_
 refine o_nilP ?_
 refine w_cond tE (fun hB2 => ?_) (fun hB2 => ?_)
 ·have hc2 := dec_t hB2
  refine w_regionP ?_
  refine o_mvP ?_
  exact o_clP rfl rfl tS rfl (fail_fin ho W0 W1 E1 src sv T tv rb G st x hS hT hO (hR.ext X1)) rfl rfl (by rintro p H' ⟨rfl, X⟩; change _ ∧ _; exact ⟨rfl, _, by simp [mName, bindP, pureP, mPlace, mKnd, mFail, hc2], rfl, X.wf, E1.trans X, _, ((Fr2.refl WS).trans WS (Fr2.ofExt X1)).trans WS (Fr2.ofExt X)⟩) (fun _ _ h => False.elim h)
 ·have hc2 := dec_fn hB2
  refine w_skip ?_
  refine w_seq ?_
  refine w_draw (ms := [0, 1, 3, 7, 0, 16, 48, 112, 255, 511, 0, 2047]) (ord := [0, 1, 2, 3, 4, 5, 6, 7, 8, 9, 10, 11]) (by kernel_rfl) (by kernel_rfl) (by kernel_rfl) ?_
  have hat : st.a < T.length := by first | omega | exact knF_lt (by omega)
  obtain ⟨loc1, off1, cap1, rfl, hrt⟩ := hT.get hat
  refine d_rd rfl (r_move tE) rfl rfl ?_
  refine d_rd rfl (r_nilChk tE) rfl rfl ?_
  refine d_rd rfl (r_fieldAddr Ty.fo58_1 tE) rfl rfl ?_
  refine d_rd rfl (r_load1 (v := .sl loc1 (off1) (T.length) cap1) Ty.agg43 tE (read_mt hA (Nat.le_of_ble_eq_true rfl))) rfl rfl ?_
  refine d_rd rfl (r_move tE) rfl rfl ?_
  refine d_rd rfl (r_nilChk tE) rfl rfl ?_
  refine d_rd rfl (r_fieldAddr Ty.fo58_2 tE) rfl rfl ?_
  refine d_rd rfl (r_load1 (v := .int .i64 (((st.a : Nat) : Int))) Ty.agg3 tE (read_mt hA (Nat.le_of_ble_eq_true rfl))) rfl rfl ?_
  refine d_rd rfl (r_indexAddr Try.underlying43 Ty.csz47 tE tE hat) rfl rfl ?_
  refine d_rd rfl (r_loadN Ty.agg47 Ty.csz47 tE (Ext.read (H := H0) (by assumption) hrt)) rfl rfl ?_
  refine d_nw rfl W1 (a_alloc Ty.zero47) rfl rfl rfl (by simp) ?_; intro H3 n3 W3 X3 A3
  have A3 : H3.at H1.n = some (.row [.int .i64 (0), .int .i64 (0), .int .i64 (0), .int .i64 (0)] 47 false none) := A3
  have E3 := E1.trans X3
  have g3 : H0.n ≤ H1.n := E1.n
  have hA := X3.keep _ _ hA
  refine ⟨re_same (r_loadN Ty.agg47 Ty.csz47 tE (Ext.read (H := H0) (by assumption) hrt)) (re_same (r_indexAddr Try.underlying43 Ty.csz47 tE tE hat) (re_same (r_load1 (v := .int .i64 (((st.a : Nat) : Int))) Ty.agg3 tE (read_mt hA (Nat.le_of_ble_eq_true rfl))) (re_same (r_fieldAddr Ty.fo58_2 tE) (re_same (r_nilChk tE) (re_same (r_move tE) (re_same (r_load1 (v := .sl loc1 (off1) (T.length) cap1) Ty.agg43 tE (read_mt hA (Nat.le_of_ble_eq_true rfl))) (re_same (r_fieldAddr Ty.fo58_1 tE) (re_same (r_nilChk tE) (re_same (r_move tE) (re_nil)))))))))), ?_⟩
  refine d_st rfl W3 tE tE A3 Ty.csz47 rfl (Nat.le_of_ble_eq_true rfl) (by rfl) rfl rfl ?_; intro H4 n4 W4 A4 K4
  have A4 : H4.at H1.n = some (.row [.int .i64 ((T[st.a]'hat).k), .int .i64 ((T[st.a]'hat).at_), .int .i64 ((T[st.a]'hat).len), .int .i64 ((T[st.a]'hat).num)] 47 false none) := A4
  have E4 := Ext.put W0 E3 (by have := E3.n; omega) K4 n4 W4
  have hA := K4.own hA (by omega)
  refine ⟨re_forcedL (M := 2047) (I := 9) rfl rfl (by decide) (re_forcedL (M := 2047) (I := 8) rfl rfl (by decide) (re_forcedL (M := 2047) (I := 7) rfl rfl (by decide) (re_forcedL (M := 2047) (I := 6) rfl rfl (by decide) (re_forcedL (M := 2047) (I := 5) rfl rfl (by decide) (re_forcedL (M := 2047) (I := 4) rfl rfl (by decide) (re_forcedL (M := 2047) (I := 3) rfl rfl (by decide) (re_forcedL (M := 2047) (I := 2) rfl rfl (by decide) (re_forcedL (M := 2047) (I := 1) rfl rfl (by decide) (re_forcedL (M := 2047) (I := 0) rfl rfl (by decide) (re_nil)))))))))), ?_⟩
  refine d_nil ?_
  refine w_srP ?_
  refine o_mvP ?_
  refine o_rdP (r_nilChk tE) rfl rfl ?_
  refine o_rdP (r_fieldAddr Ty.fo58_2 tE) rfl rfl ?_
  refine o_rdP (r_load1 (v := .int .i64 (((st.a : Nat) : Int))) Ty.agg3 tE (read_mt hA (Nat.le_of_ble_eq_true rfl))) rfl rfl ?_
  refine o_rdP (r_addE (a := ((st.a : Nat) : Int)) (b := 1) (c := ((st.a + 1 : Nat) : Int)) tE tE (by omega) (by omega) (by omega)) rfl rfl ?_
  refine o_rdP (r_nilChk tE) rfl rfl ?_
  refine o_rdP (r_fieldAddr Ty.fo58_2 tE) rfl rfl ?_
  refine o_stepP ?_
  refine o_st W4 tE tE hA Ty.csz3 rfl (Nat.le_of_ble_eq_true rfl) (by rfl) rfl rfl ?_; intro H5 n5 W5 A5 K5
  have A5 : H5.at rb = some (.row [sv, .sl loc1 (off1) (T.length) cap1, .int .i64 (((st.a + 1 : Nat) : Int)), nv] 58 false none) := A5
  have E5 := Ext.put W0 E4 (by have := E4.n; omega) K5 n5 W5
  have A4 := K5.own A4 (by omega)
  refine o_nil ?_
  refine o_nilP ?_
  refine w_seq ?_
  refine w_draw (ms := [0, 1, 3, 7, 0, 16, 0, 64, 0, 256, 960, 2047, 4095, 8191]) (ord := [0, 1, 2, 3, 4, 5, 6, 7, 8, 9, 10, 11, 12, 13]) (by kernel_rfl) (by kernel_rfl) (by kernel_rfl) ?_
  have hK0 := A5
  have htr := hO.r st.a hat
  obtain ⟨ta, hta⟩ : ∃ n : Nat, (T[st.a]'hat).at_ = (n : Int) := ⟨(T[st.a]'hat).at_.toNat, by omega⟩
  obtain ⟨tl, htl⟩ : ∃ n : Nat, (T[st.a]'hat).len = (n : Int) := ⟨(T[st.a]'hat).len.toNat, by omega⟩
  rw [hta, htl] at A4
  obtain ⟨loc9, off9, cap9, rfl, _, _, _⟩ := hS.open_ (by omega)
  obtain ⟨hr9, hc9, hcut9⟩ := sb_caps hS
  have hdl : (src.drop ta).length = src.length - ta := by simp
  have hf9 := hS.from_ (j := ta) (by omega); rw [← hdl] at hf9; have ht9 := hf9.to_ (j := tl) (by omega)
  refine d_rd rfl (r_move tE) rfl rfl ?_
  refine d_rd rfl (r_nilChk tE) rfl rfl ?_
  refine d_rd rfl (r_fieldAddr Ty.fo58_0 tE) rfl rfl ?_
  refine d_rd rfl (r_load1 (v := .sl loc9 (off9) (src.length) cap9) Ty.agg22 tE (read_mt A5 (Nat.le_of_ble_eq_true rfl))) rfl rfl ?_
  refine d_rd rfl (r_fieldAddr Ty.fo47_1 tE) rfl rfl ?_
  refine d_rd rfl (r_load1 (v := .int .i64 (((ta : Nat) : Int))) Ty.agg3 tE (read_mt A4 (Nat.le_of_ble_eq_true rfl))) rfl rfl ?_
  refine d_rd rfl (r_fieldAddr Ty.fo47_1 tE) rfl rfl ?_
  refine d_rd rfl (r_load1 (v := .int .i64 (((ta : Nat) : Int))) Ty.agg3 tE (read_mt A4 (Nat.le_of_ble_eq_true rfl))) rfl rfl ?_
  refine d_rd rfl (r_fieldAddr Ty.fo47_2 tE) rfl rfl ?_
  refine d_rd rfl (r_load1 (v := .int .i64 (((tl : Nat) : Int))) Ty.agg3 tE (read_mt A4 (Nat.le_of_ble_eq_true rfl))) rfl rfl ?_
  refine d_rd rfl (r_addE (a := ((ta : Nat) : Int)) (b := ((tl : Nat) : Int)) (c := ((ta + tl : Nat) : Int)) tE tE (by omega) (by omega) (by omega)) rfl rfl ?_
  refine d_rd rfl ((r_sliceLH (i := ta) (j := ta + tl) Try.underlying22 Ty.csz5 tE tE tE (by omega) (by omega) (cutOk_ext E5 hcut9)).trans (by rw [show ta + tl - ta = tl by omega])) rfl rfl ?_
  refine d_rd rfl (r_bytesStr (l := (src.drop ta).take tl) Try.underlying22 Try.underlying9 Try.underlying5 Ty.csz5 tE (ht9.ext E5)) rfl rfl ?_
  refine d_rd rfl (r_assign tE) rfl rfl ?_
  refine d_nil ?_
  refine w_ret ?_
  change _ ∧ _
  refine ⟨rfl, .str ((src.drop ta).take tl), (show resultA Try.prog [.tmp 2] _ = _ from tR), ?_⟩
  try dsimp only
  have hst := RS.step hR (Ext.put WS (X1.trans X3) (by omega) K4 n4 W4) hN K5 n5 W5 E5 (a := st.a + 1) hat hK0
  exact ⟨_, ⟨st.a + 1, st.ns⟩, x, by simp [mName, bindP, pureP, mPlace, mKnd, mFail, hc2, take_at hat, tkF, hta, htl], rfl, hst.1, hst.2⟩
theorem number_fin2 (ho : NoOrcBut [7, 21, 69, 81] orc) {H0 HS : AH} (W0 : Wf H0) (WS : Wf HS) (ES : Ext H0 HS) (src : List UInt8) (sv : AV) (T : List TK) (tv : AV) (rb : Nat) (G : LK → Prop) (st : PS) (x : LK) (hS : SB H0 5 src sv) (hT : TS H0 T tv) (hO : TOk src T) (hR : RS H0 sv tv T.length rb G HS st x)  : FinP Try.prog orc 100 [.ptr (.mt (rb)) (0)] HS (fun r H' => OkR H0 sv tv T.length rb G HS x (mNum src T st) (AV.int .i64) r H') (fun r H' => BadR H0 rb HS x (mNum src T st) r H') := by
 have E0 := ES
 obtain ⟨nv, hA, hN⟩ := hR.at_; have hr0 := hR.r0; have hTl := hO.len; have hal := hR.al; have hSb := hS.bound; have hrbl := WS.lt hA
 refine fin_ofP Try.func100 rfl (by rw [Try.ntmps100]; simp) (ho _ rfl _ _) ?_
 rw [Try.ntmps100]
 refine w_srP ?_
 refine o_asP ?_
 refine o_nilP ?_
 refine w_seq ?_
 refine w_srP ?_
 refine o_mvP ?_
 refine o_stepP ?_
 refine o_cl rfl rfl tS rfl (knd_fin ho W0 WS E0 src sv T tv rb G st x hS hT hO hR) rfl rfl ?_; rintro _ H1 ⟨rfl, X1⟩
 have W1 := X1.wf; have E1 := E0.trans X1
 have hA := X1.keep _ _ hA
 have n1 := X1.n
 refine o_nil ?_
 refine o_rdP (r_ne (a := knF T st.a) (b := 2) tE tE) rfl rfl ?_
 refine o_nilP ?_
 refine w_cond tE (fun hB2 => ?_) (fun hB2 => ?_)
 ·have hc2 := dec_t hB2
  refine w_regionP ?_
  refine o_mvP ?_
  exact o_clP rfl rfl tS rfl (fail_fin ho W0 W1 E1 src sv T tv rb G st x hS hT hO (hR.ext X1)) rfl rfl (by rintro p H' ⟨rfl, X⟩; change _ ∧ _; exact ⟨rfl, _, by simp [mNum, bindP, pureP, mPlace, mKnd, mFail, hc2], rfl, X.wf, E1.trans X, _, ((Fr2.refl WS).trans WS (Fr2.ofExt X1)).trans WS (Fr2.ofExt X)⟩) (fun _ _ h => False.elim h)
 ·have hc2 := dec_fn hB2
  refine w_skip ?_
  refine w_srP ?_
  refine o_mvP ?_
  refine o_rdP (r_nilChk tE) rfl rfl ?_
  refine o_rdP (r_fieldAddr Ty.fo58_2 tE) rfl rfl ?_
  refine o_rdP (r_load1 (v := .int .i64 (((st.a : Nat) : Int))) Ty.agg3 tE (read_mt hA (Nat.le_of_ble_eq_true rfl))) rfl rfl ?_
  refine o_rdP (r_addE (a := ((st.a : Nat) : Int)) (b := 1) (c := ((st.a + 1 : Nat) : Int)) tE tE (by omega) (by omega) (by omega)) rfl rfl ?_
  refine o_rdP (r_nilChk tE) rfl rfl ?_
  refine o_rdP (r_fieldAddr Ty.fo58_2 tE) rfl rfl ?_
  refine o_stepP ?_
  refine o_st W1 tE tE hA Ty.csz3 rfl (Nat.le_of_ble_eq_true rfl) (by rfl) rfl rfl ?_; intro H3 n3 W3 A3 K3
  have A3 : H3.at rb = some (.row [sv, tv, .int .i64 (((st.a + 1 : Nat) : Int)), nv] 58 false none) := A3
  have E3 := Ext.put W0 E1 (by have := E1.n; omega) K3 n3 W3
  refine o_nil ?_
  refine o_nilP ?_
  refine w_seq ?_
  refine w_draw (ms := [0, 1, 3, 7, 0, 16, 48, 112, 240, 511, 1023, 2047, 4095]) (ord := [0, 1, 2, 3, 4, 5, 6, 7, 8, 9, 10, 11, 12]) (by kernel_rfl) (by kernel_rfl) (by kernel_rfl) ?_
  have hK0 := A3
  have hat : st.a < T.length := by first | omega | exact knF_lt (by omega)
  obtain ⟨loc1, off1, cap1, rfl, hrt⟩ := hT.get hat
  refine d_rd rfl (r_move tE) rfl rfl ?_
  refine d_rd rfl (r_nilChk tE) rfl rfl ?_
  refine d_rd rfl (r_fieldAddr Ty.fo58_1 tE) rfl rfl ?_
  refine d_rd rfl (r_load1 (v := .sl loc1 (off1) (T.length) cap1) Ty.agg43 tE (read_mt A3 (Nat.le_of_ble_eq_true rfl))) rfl rfl ?_
  refine d_rd rfl (r_move tE) rfl rfl ?_
  refine d_rd rfl (r_nilChk tE) rfl rfl ?_
  refine d_rd rfl (r_fieldAddr Ty.fo58_2 tE) rfl rfl ?_
  refine d_rd rfl (r_load1 (v := .int .i64 (((st.a + 1 : Nat) : Int))) Ty.agg3 tE (read_mt A3 (Nat.le_of_ble_eq_true rfl))) rfl rfl ?_
  refine d_rd rfl (r_subE (a := ((st.a + 1 : Nat) : Int)) (b := 1) (c := ((st.a : Nat) : Int)) tE tE (by omega) (by omega) (by omega)) rfl rfl ?_
  refine d_rd rfl (r_indexAddr Try.underlying43 Ty.csz47 tE tE hat) rfl rfl ?_
  refine d_rd rfl (r_fieldAddr Ty.fo47_3 tE) rfl rfl ?_
  refine d_rd rfl (r_load1 Ty.agg3 tE ((read_part (Ext.read (H := H0) (by assumption) hrt) (o := 3) (m := 1) (by decide)).trans rfl)) rfl rfl ?_
  refine d_rd rfl (r_assign tE) rfl rfl ?_
  refine d_nil ?_
  refine w_ret ?_
  change _ ∧ _
  refine ⟨rfl, .int .i64 ((T[st.a]'hat).num), (show resultA Try.prog [.tmp 2] _ = _ from tR), ?_⟩
  try dsimp only
  have hst := RS.step hR X1 hN K3 n3 W3 E3 (a := st.a + 1) hat hK0
  exact ⟨_, ⟨st.a + 1, st.ns⟩, x, by simp [mNum, bindP, pureP, mPlace, mKnd, mFail, hc2, take_at hat], rfl, hst.1, hst.2⟩
end Go.Proofs.Ytehmhhlhlipbnaa.Vs
