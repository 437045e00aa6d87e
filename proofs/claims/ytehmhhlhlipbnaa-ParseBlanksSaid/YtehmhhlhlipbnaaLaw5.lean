/-
 ParseBlanks, gone through: what it answers.
-/
import Derived.Test.YtehmhhlhlipbnaaLaw4
set_option autoImplicit false
set_option linter.unusedVariables false
set_option linter.unusedSimpArgs false
namespace Go.Proofs.Ytehmhhlhlipbnaa.Vs
open Go.VI Go.Proofs
variable {orc : CallF}
theorem len2_of {H0 H : AH} {el1 el2 : TypeId} {c1 c2 : List AV} {n1 n2 : Nat} {s1 s2 : AV} (G : G2 H0 H el1 el2 c1 n1 s1 c2 n2 s2) : VI.lenOf s2 = some n2 := by
 obtain ⟨b1, f1, b2, f2, N1, N2, h1, h2, O2, A⟩ := G
 exact own_lenOf O2
theorem texts_len {tx : Nat → List UInt8} {src : List UInt8} (h : (scanF tx src).2.2 = 0) : (textsF tx src).length = (scanF tx src).1.length := by rw [textsF, if_pos h, List.length_map]
theorem texts_get {tx : Nat → List UInt8} {src : List UInt8} (h : (scanF tx src).2.2 = 0) {i : Nat} (h1 : i < (textsF tx src).length) (h2 : i < (scanF tx src).1.length) : (textsF tx src)[i] = tkF src (scanF tx src).1[i] := by
 simp only [textsF, if_pos h, List.getElem_map]
theorem tkF_len {src : List UInt8} {t : TK} : (tkF src t).length ≤ src.length := by unfold tkF; simp; omega
theorem out_step {src out : List UInt8} {bs : List (List UInt8)} {T : List TK} {F : List UInt8} {i : Nat} (hi : i < T.length) (h : out ++ tailI src bs i (T.drop i) = F) : ((out ++ tkF src T[i]) ++ gapI bs i) ++ tailI src bs (i + 1) (T.drop (i + 1)) = F := by
 rw [List.drop_eq_getElem_cons hi] at h
 simp only [tailI] at h
 simp only [List.append_assoc]
 exact h
set_option maxRecDepth 100000 in
set_option maxHeartbeats 4000000 in
theorem parseBla_fin (ho : NoOrcBut [7, 21, 69, 81] orc) {H0 : AH} (W0 : Wf H0) (ho81 : ∃ sg, ∀ H, orc 81 [] H = some (.ret sg, H)) (tx : Nat → List UInt8) (ho69 : ∀ k : Nat, k < 67 → ∀ H, orc 69 [.int .i64 (k : Int)] H = some (.ret (.str (tx k)), H)) (ho7 : ∀ H, orc 7 [] H = some (.ret (.bool true), H)) (htr : TryOk orc tx) (hbla : ∀ k, k < 67 → ∀ c ∈ tx k, isBla c = false) (src : List UInt8) (bs : List (List UInt8)) (sv bv : AV) (hS : SB H0 5 src sv) (hB : SW H0 bs bv) (hbl : ∀ i, (h : i < bs.length) → bs[i].length ≤ 140737488355328) : Fin Try.prog orc 4 [sv, bv] H0 (fun r H' => r = .bool true ∧ Ext H0 H') := by
 have E0 := Ext.refl W0
 have hBb := hB.bound
 refine fin_of Try.func4 rfl (by rw [Try.ntmps4]; simp) (ho _ rfl _ _) ?_
 rw [Try.ntmps4]
 refine w_sr ?_
 refine o_as ?_
 refine o_nil ?_
 refine w_seq ?_
 refine w_sr ?_
 refine o_cl rfl rfl tS rfl (fin_orc ho7 W0) rfl rfl ?_; rintro _ H1 ⟨rfl, X1⟩
 have W1 := X1.wf; have E1 := E0.trans X1
 have n1 := X1.n
 refine o_rd (r_not tE) rfl rfl ?_
 refine o_nil ?_
 refine w_cond (t := false) tE (fun h => by cases h) (fun _ => ?_)
 refine w_skip ?_
 refine w_sr ?_
 refine o_mv ?_
 refine o_cl rfl rfl tS rfl (parse_fin ho W1 ho81 tx ho69 htr src _ (hS.ext E1) 65536 (fun h => parse_ok h)) rfl rfl ?_; rintro _ H2 ⟨s2, rfl, hNS2, X2⟩
 have W2 := X2.wf; have E2 := E1.trans X2
 have n2 := X2.n
 refine o_mv ?_
 refine o_rd (r_extract tE rfl) rfl rfl ?_
 refine o_rd (r_extract tE rfl) rfl rfl ?_
 refine o_nw W2 (a_alloc Ty.zero34) rfl rfl rfl (by simp) ?_; intro H3 n3 W3 X3 A3
 have A3 : H3.at H2.n = some (.row [.int .i64 (0), .int .i64 (0)] 34 false none) := A3
 have E3 := E2.trans X3
 have g3 : H0.n ≤ H2.n := E2.n
 refine o_as ?_
 refine o_st W3 tE tE A3 Ty.csz34 rfl (Nat.le_of_ble_eq_true rfl) (by rfl) rfl rfl ?_; intro H4 n4 W4 A4 K4
 have A4 : H4.at H2.n = some (.row [.int .i64 ((parseF tx src 65536).2.1), .int .i64 ((parseF tx src 65536).2.2)] 34 false none) := A4
 have E4 := Ext.put W0 E3 (by have := E3.n; omega) K4 n4 W4
 refine o_nil ?_
 refine w_sr ?_
 refine o_mv ?_
 refine o_cl rfl rfl tS rfl (texts_fin ho W4 ho81 tx ho69 src _ (hS.ext E4)) rfl rfl ?_; rintro _ H5 ⟨ws5, rfl, hSW5, X5⟩
 have W5 := X5.wf; have E5 := E4.trans X5
 have A4 := X5.keep _ _ A4
 have n5 := X5.n
 refine o_mv ?_
 refine o_rd (r_extract tE rfl) rfl rfl ?_
 refine o_rd (r_extract tE rfl) rfl rfl ?_
 refine o_as ?_
 refine o_as ?_
 refine o_nil ?_
 refine w_seq ?_
 refine w_sr ?_
 refine o_mv ?_
 refine o_rd (r_not tE) rfl rfl ?_
 refine o_nil ?_
 refine w_cond tE (fun hB6 => ?_) (fun hB6 => ?_)
 ·have hc6 := dec_f (not_t hB6)
  refine w_sr ?_
  refine o_rd (r_fieldAddr Ty.fo34_1 tE) rfl rfl ?_
  refine o_rd (r_load1 (v := .int .i64 ((parseF tx src 65536).2.2)) Ty.agg32 tE (read_mt A4 (Nat.le_of_ble_eq_true rfl))) rfl rfl ?_
  refine o_rd (r_ne (a := (parseF tx src 65536).2.2) (b := 0) tE tE) rfl rfl ?_
  refine o_as ?_
  refine o_nil ?_
  refine w_ret ⟨.inr rfl, rfl, .bool (decide ((parseF tx src 65536).2.2 ≠ 0)), (show resultA Try.prog [.tmp 4] _ = _ from tR), ?_⟩
  try dsimp only
  refine ⟨congrArg AV.bool ?_, E5⟩; first | rfl | (exfalso; omega) | (exact decide_eq_true (by rw [parseF_scan (by omega)]; omega)) | exact nodesB_t.2 hlaw.2 | (exfalso; have := hlaw.1; omega)
 ·have hc6 := dec_t (not_f hB6)
  refine w_skip ?_
  refine w_sr ?_
  have hz : (scanF tx src).2.2 = 0 := by omega
  have hTl := (tok_ok (tx := tx) (src := src) hz).len; have hsl := (scanF_inc (tx := tx) (src := src) hz).2.2.2; have htl := texts_len hz
  have WQ := W5; have EQ := E5; have XQ0 := Ext.refl W5
  have aq7 := A4
  have hQ1 : Ext H2 H5 := ((Ext.put W2 X3 (by omega) K4 n4 W4).trans X5); have hQW : Ext H5 H5 := (Ext.refl W5)
  refine o_nw W5 (a_build1 Try.underlying22 Ty.csz5 Ty.zero5 rfl tE rfl (by decide)) rfl rfl rfl (by simp) ?_; intro H8 n8 W8 X8 A8
  have E8 := E5.trans X8
  refine o_cv (el := 5) (s := 22) Try.underlying22 Try.underlying5 tE A8 (by decide) rfl rfl ?_
  have HG0 : G2 H5 H8 3 5 [] 0 .nils (bytesA [32]) 1 (freshSl (H5.n) 1 1) := G2.start (n := H8.n) (.inr ⟨by decide, H5.n, none, ⟨Nat.le_refl _, fun f h => by cases h⟩, by omega, own_fresh A8 rfl⟩) (Nat.le_refl _)
  have HX0 := X8
  have A4 := X8.keep _ _ A4
  refine o_as ?_
  refine o_nil ?_
  refine w_sr ?_
  refine o_as ?_
  refine o_nil ?_
  refine w_seq ?_
  refine w_sr ?_
  refine o_mv ?_
  refine o_rd (r_len (n := (textsF tx src).length) Try.underlying30 tE hSW5.lenOf) rfl rfl ?_
  refine o_mv ?_
  refine o_nil ?_
  refine w_block ?_
  refine w_loop (fun m s => ∃ (e : Env) (H : AH) (i : Nat) (out : List UInt8) (cs : List AV) (so1 : AV) (so2 : AV), s = ⟨e, H, []⟩ ∧ e.val 0 = sv ∧ e.val 1 = bv ∧ e.val 4 = .bool (false) ∧ e.val 5 = s2 ∧ e.val 6 = .ptr (.mt (H2.n)) (0) ∧ e.val 7 = ws5 ∧ e.val 9 = so2 ∧ e.val 10 = so1 ∧ e.val 35 = ws5 ∧ e.val 36 = .int .i64 ((((textsF tx src).length : Nat) : Int)) ∧ e.val 37 = .int .i64 (((i : Nat) : Int)) ∧ Wf H ∧ Ext H0 H ∧ H.at (H2.n) = some (.row [.int .i64 ((parseF tx src 65536).2.1), .int .i64 ((parseF tx src 65536).2.2)] 34 false none) ∧ (i + m = (scanF tx src).1.length) ∧ (out ++ tailI src bs i ((scanF tx src).1.drop i) = (fullI tx src bs)) ∧ (out.length ≤ 65600) ∧ (G2 H5 H 3 5 cs i so1 (bytesA out) out.length so2) ∧ (Ext H5 H) ∧ (Ext H5 H) ∧ (Ext H2 H)) ((scanF tx src).1.length) ⟨_, H8, 0, [32], [], .nils, (freshSl (H5.n) 1 1), rfl, tV, tV, tV, tV, tV, tV, tV, tV, tV, tV, tV, W8, E8, A4, (by omega), rfl, (by decide), HG0, HX0, (hQW.trans HX0), (hQ1.trans HX0)⟩ ?_
  intro m s hi
  obtain ⟨e, H9, i, out, cs, so1, so2, rfl, vt0, vt1, vt4, vt5, vt6, vt7, vt9, vt10, vt35, vt36, vt37, W9, E9, A4, him, hout, hol, HG, hXQ, hEW, hEP⟩ := hi
  have vA := And.intro vt0 (And.intro vt1 (And.intro vt4 (And.intro vt5 (And.intro vt6 (And.intro vt7 (And.intro vt9 (And.intro vt10 (And.intro vt35 (And.intro vt36 vt37)))))))))
  have l9_0 := W9.lt A4
  refine w_sr ?_
  refine o_rd (r_lt (a := ((i : Nat) : Int)) (b := (((textsF tx src).length : Nat) : Int)) tE tE) rfl rfl ?_
  refine o_nil ?_
  refine w_seq ?_
  refine w_cond tE (fun hB10 => ?_) (fun hB10 => ?_)
  ·have hc10 := dec_t hB10
   refine w_skip ?_
   refine w_seq ?_
   refine w_block ?_
   refine w_sr ?_
   refine o_mv ?_
   have hil : i < (scanF tx src).1.length := by omega
   have hiw : i < (textsF tx src).length := by omega
   obtain ⟨loc1, off1, cap1, rfl, hr1⟩ := hSW5.get hiw
   rw [texts_get hz hiw hil] at hr1
   have hwl : (tkF src ((scanF tx src).1[i]'hil)).length ≤ src.length := tkF_len
   refine o_rd (r_indexAddr Try.underlying30 Ty.csz9 tE tE hiw) rfl rfl ?_
   refine o_rd (r_load1 Ty.agg9 tE (hEW.read hr1)) rfl rfl ?_
   refine o_as ?_
   refine o_as ?_
   refine o_nil ?_
   refine w_sr ?_
   refine o_mv ?_
   refine o_mv ?_
   refine o_rd (r_len (n := out.length) Try.underlying22 tE (len2_of (HG))) rfl rfl ?_
   refine o_nw W9 (a_build1 Try.underlying39 Ty.csz3 Ty.zero3 rfl tE rfl (by decide)) rfl rfl rfl (by simp) ?_; intro H11 n11 W11 X11 A11
   have E11 := E9.trans X11; have hXm := hXQ.trans X11
   refine o_ap1 WQ W11 hXm Try.underlying39 Try.underlying39 rfl Ty.csz3 Ty.byt3 Ty.zero3 rfl tE tE (HG.ext X11) A11 rfl (room_of (by omega)) rfl rfl ?_; intro so3 H12 HG2 W12 hX2
   have E12 := EQ.trans hX2
   have A4 := hX2.keep _ _ aq7
   refine o_as ?_
   refine o_nil ?_
   refine w_sr ?_
   refine o_mv ?_
   refine o_mv ?_
   refine o_ap2 WQ W12 hX2 Try.underlying22 Try.underlying9 rfl Ty.csz5 Ty.byt5 Ty.zero5 rfl tE tE HG2 (str_src (tkF src ((scanF tx src).1[i]'hil))) (bytesA_len _) (ones_bytes _) (room1' (by omega)) rfl rfl ?_; intro so2a H13 HG3 W13 hX3
   have E13 := EQ.trans hX3
   rw [← bytesA_app, ← List.length_append] at HG3
   have A4 := hX3.keep _ _ aq7
   refine o_as ?_
   refine o_nil ?_
   refine w_seq ?_
   refine w_sr ?_
   refine o_mv ?_
   refine o_rd (r_len (n := (out ++ (tkF src ((scanF tx src).1[i]'hil))).length) Try.underlying22 tE (len2_of (HG3))) rfl rfl ?_
   refine o_rd (r_gt (a := (((out ++ (tkF src ((scanF tx src).1[i]'hil))).length : Nat) : Int)) (b := 65536) tE tE) rfl rfl ?_
   refine o_nil ?_
   refine w_cond tE (fun hB14 => ?_) (fun hB14 => ?_)
   ·have hc14 := dec_t hB14
    refine w_sr ?_
    refine o_as ?_
    refine o_nil ?_
    refine w_ret ⟨.inr rfl, rfl, .bool (true), (show resultA Try.prog [.tmp 4] _ = _ from tR), ?_⟩
    try dsimp only
    refine ⟨congrArg AV.bool ?_, E13⟩; first | rfl | (exfalso; omega) | (exact decide_eq_true (by rw [parseF_scan (by omega)]; omega)) | exact nodesB_t.2 hlaw.2 | (exfalso; have := hlaw.1; omega)
   ·have hc14 := dec_f hB14
    refine w_skip ?_
    refine w_sr ?_
    refine o_as ?_
    refine o_nil ?_
    refine w_seq ?_
    refine w_sr ?_
    refine o_mv ?_
    refine o_mv ?_
    refine o_rd (r_len (n := bs.length) Try.underlying30 tE hB.lenOf) rfl rfl ?_
    refine o_rd (r_lt (a := ((i : Nat) : Int)) (b := ((bs.length : Nat) : Int)) tE tE) rfl rfl ?_
    refine o_nil ?_
    refine w_cond tE (fun hB15 => ?_) (fun hB15 => ?_)
    ·have hc15 := dec_t hB15
     refine w_region ?_
     refine o_mv ?_
     refine o_mv ?_
     have hib : i < bs.length := by omega
     obtain ⟨loc2, off2, cap2, rfl, hr2⟩ := hB.get hib
     refine o_rd (r_indexAddr Try.underlying30 Ty.csz9 tE tE hib) rfl rfl ?_
     refine o_rd (r_load1 Ty.agg9 tE (Ext.read (H := H0) (by assumption) hr2)) rfl rfl ?_
     refine o_cl rfl rfl tS rfl (blanks_fin ho W13 (bs[i]'hib) (by have := hbl i hib; omega)) rfl rfl ?_; rintro _ H16 ⟨rfl, X16⟩
     have W16 := X16.wf; have E16 := E13.trans X16
     have A4 := X16.keep _ _ A4
     have n16 := X16.n
     refine o_as ?_
     refine o_nil ?_
     refine w_region ?_
     have HG3 := HG3.ext X16; have hX3 := hX3.trans X16
     refine o_mv ?_
     refine o_mv ?_
     have hgp : blanksF (bs[i]'hib) = gapI bs i := by unfold gapI; first | rw [List.getElem?_eq_getElem hib] | rw [List.getElem?_eq_none (by omega)]
     have hgl := gap_len bs i
     refine o_ap2 WQ W16 hX3 Try.underlying22 Try.underlying9 rfl Ty.csz5 Ty.byt5 Ty.zero5 rfl tE tE HG3 (str_src (blanksF (bs[i]'hib))) (bytesA_len _) (ones_bytes _) (room1' (by rw [hgp]; omega)) rfl rfl ?_; intro so2b H17 HG4 W17 hX4
     have E17 := EQ.trans hX4
     rw [hgp, ← bytesA_app, ← List.length_append] at HG4
     have hol4 : ((out ++ tkF src ((scanF tx src).1[i]'hil)) ++ gapI bs i).length ≤ 65600 := by rw [List.length_append]; omega
     have hst := out_step hil hout
     have A4 := hX4.keep _ _ aq7
     refine o_as ?_
     refine o_nil ?_
     refine w_region ?_
     refine o_rd (r_addE (a := ((i : Nat) : Int)) (b := 1) (c := ((i + 1 : Nat) : Int)) tE tE (by omega) (by omega) (by omega)) rfl rfl ?_
     refine o_mv ?_
     refine o_nil ?_
     exact ⟨m - 1, (by omega), _, H17, i + 1, ((out ++ tkF src ((scanF tx src).1[i]'hil)) ++ gapI bs i), _, so3, so2b, rfl, tV, tV, tV, tV, tV, tV, tV, tV, tV, tV, tV, W17, E17, A4, (by omega), hst, hol4, HG4, hX4, (hQW.trans hX4), (hQ1.trans hX4)⟩
    ·have hc15 := dec_f hB15
     refine w_skip ?_
     refine w_region ?_
     refine o_mv ?_
     refine o_mv ?_
     have hgp : [32] = gapI bs i := by unfold gapI; first | rw [List.getElem?_eq_getElem hib] | rw [List.getElem?_eq_none (by omega)]
     have hgl := gap_len bs i
     refine o_ap2 WQ W13 hX3 Try.underlying22 Try.underlying9 rfl Ty.csz5 Ty.byt5 Ty.zero5 rfl tE tE HG3 (str_src ([32])) (bytesA_len _) (ones_bytes _) (room1' (by rw [hgp]; omega)) rfl rfl ?_; intro so2b H18 HG4 W18 hX4
     have E18 := EQ.trans hX4
     rw [hgp, ← bytesA_app, ← List.length_append] at HG4
     have hol4 : ((out ++ tkF src ((scanF tx src).1[i]'hil)) ++ gapI bs i).length ≤ 65600 := by rw [List.length_append]; omega
     have hst := out_step hil hout
     have A4 := hX4.keep _ _ aq7
     refine o_as ?_
     refine o_nil ?_
     refine w_region ?_
     refine o_rd (r_addE (a := ((i : Nat) : Int)) (b := 1) (c := ((i + 1 : Nat) : Int)) tE tE (by omega) (by omega) (by omega)) rfl rfl ?_
     refine o_mv ?_
     refine o_nil ?_
     exact ⟨m - 1, (by omega), _, H18, i + 1, ((out ++ tkF src ((scanF tx src).1[i]'hil)) ++ gapI bs i), _, so3, so2b, rfl, tV, tV, tV, tV, tV, tV, tV, tV, tV, tV, tV, W18, E18, A4, (by omega), hst, hol4, HG4, hX4, (hQW.trans hX4), (hQ1.trans hX4)⟩
  ·have hc10 := dec_f hB10
   first | refine w_exit (blk_exit ?_) | refine w_exit (show (0 = 0 → _) ∧ (0 ≠ 0 → _) from ⟨fun _ => ?_, fun c => absurd rfl c⟩)
   refine w_seq ?_
   refine w_sr ?_
   have hii : i = (scanF tx src).1.length := by omega
   subst hii
   rw [List.drop_length] at hout; simp only [tailI, List.append_nil] at hout
   refine o_mv ?_
   refine o_rd (r_len (n := out.length) Try.underlying22 tE (len2_of (HG))) rfl rfl ?_
   refine o_rd (r_gt (a := ((out.length : Nat) : Int)) (b := 65536) tE tE) rfl rfl ?_
   refine o_nil ?_
   refine w_cond tE (fun hB19 => ?_) (fun hB19 => ?_)
   ·have hc19 := dec_t hB19
    refine w_sr ?_
    refine o_as ?_
    refine o_nil ?_
    refine w_ret ⟨.inr rfl, rfl, .bool (true), (show resultA Try.prog [.tmp 4] _ = _ from tR), ?_⟩
    try dsimp only
    refine ⟨congrArg AV.bool ?_, E9⟩; first | rfl | (exfalso; omega) | (exact decide_eq_true (by rw [parseF_scan (by omega)]; omega)) | exact nodesB_t.2 hlaw.2 | (exfalso; have := hlaw.1; omega)
   ·have hc19 := dec_f hB19
    refine w_skip ?_
    refine w_sr ?_
    have hSF : SB H9 5 (fullI tx src bs) so2 := hout ▸ GB.sb (HG.second W9) (by omega)
    have hlaw := blanks_ok hbla src bs hz (by rw [← hout]; omega) 65536
    refine o_mv ?_
    refine o_cl rfl rfl tS rfl (parse_fin ho W9 ho81 tx ho69 htr (fullI tx src bs) _ hSF 65536 (fun h => parse_ok h)) rfl rfl ?_; rintro _ H20 ⟨s20, rfl, hNS20, X20⟩
    have W20 := X20.wf; have E20 := E9.trans X20
    have A4 := X20.keep _ _ A4
    have n20 := X20.n
    refine o_mv ?_
    refine o_rd (r_extract tE rfl) rfl rfl ?_
    refine o_rd (r_extract tE rfl) rfl rfl ?_
    refine o_nw W20 (a_alloc Ty.zero34) rfl rfl rfl (by simp) ?_; intro H21 n21 W21 X21 A21
    have A21 : H21.at H20.n = some (.row [.int .i64 (0), .int .i64 (0)] 34 false none) := A21
    have E21 := E20.trans X21
    have g21 : H0.n ≤ H20.n := E20.n
    have A4 := X21.keep _ _ A4
    refine o_as ?_
    refine o_st W21 tE tE A21 Ty.csz34 rfl (Nat.le_of_ble_eq_true rfl) (by rfl) rfl rfl ?_; intro H22 n22 W22 A22 K22
    have A22 : H22.at H20.n = some (.row [.int .i64 ((parseF tx (fullI tx src bs) 65536).2.1), .int .i64 ((parseF tx (fullI tx src bs) 65536).2.2)] 34 false none) := A22
    have E22 := Ext.put W0 E21 (by have := E21.n; omega) K22 n22 W22
    have A4 := K22.own A4 (by omega)
    refine o_nil ?_
    refine w_sr ?_
    refine o_rd (r_fieldAddr Ty.fo34_1 tE) rfl rfl ?_
    refine o_rd (r_load1 (v := .int .i64 ((parseF tx (fullI tx src bs) 65536).2.2)) Ty.agg32 tE (read_mt A22 (Nat.le_of_ble_eq_true rfl))) rfl rfl ?_
    refine o_rd (r_fieldAddr Ty.fo34_1 tE) rfl rfl ?_
    refine o_rd (r_load1 (v := .int .i64 ((parseF tx src 65536).2.2)) Ty.agg32 tE (read_mt A4 (Nat.le_of_ble_eq_true rfl))) rfl rfl ?_
    refine o_rd (r_eq (a := (parseF tx (fullI tx src bs) 65536).2.2) (b := (parseF tx src 65536).2.2) tE tE) rfl rfl ?_
    refine o_mv ?_
    cases hg23 : (decide ((parseF tx (fullI tx src bs) 65536).2.2 = (parseF tx src 65536).2.2) : Bool)
    ·have hg23 := dec_f hg23
     refine o_sk rfl ((wanted_of (b := false) rfl rfl rfl tV).trans rfl) ?_
     refine o_sk rfl ((wanted_of (b := false) rfl rfl rfl tV).trans rfl) ?_
     refine o_sk rfl ((wanted_of (b := false) rfl rfl rfl tV).trans rfl) ?_
     refine o_rd (r_pick (t := false) tE (fun h => by cases h) (fun _ => tE)) rfl rfl ?_
     refine o_as ?_
     refine o_nil ?_
     refine w_ret ⟨.inr rfl, rfl, .bool (false), (show resultA Try.prog [.tmp 4] _ = _ from tR), ?_⟩
     try dsimp only
     refine ⟨congrArg AV.bool ?_, E22⟩; first | rfl | (exfalso; omega) | (exact decide_eq_true (by rw [parseF_scan (by omega)]; omega)) | exact nodesB_t.2 hlaw.2 | (exfalso; have := hlaw.1; omega)
    ·have hg23 := dec_t hg23
     refine o_rd (r_move tE) rfl ((wanted_of (b := true) rfl rfl rfl tV).trans rfl) ?_
     refine o_rd (r_move tE) rfl ((wanted_of (b := true) rfl rfl rfl tV).trans rfl) ?_
     refine o_cl rfl rfl tS rfl (nodes_fin ho W22 true (parseF tx src 65536).1 (parseF tx (fullI tx src bs) 65536).1 _ _ (hNS2.ext (hEP.trans ((Ext.put W9 (X20.trans X21) (by omega) K22 n22 W22)))) (hNS20.ext (Ext.put W20 X21 (by omega) K22 n22 W22))) rfl ((wanted_of (b := true) rfl rfl rfl tV).trans rfl) ?_; rintro _ H24 ⟨rfl, X24⟩
     have W24 := X24.wf; have E24 := E22.trans X24
     have A4 := X24.keep _ _ A4
     have A22 := X24.keep _ _ A22
     have n24 := X24.n
     refine o_rd (r_pick (t := true) tE (fun _ => tE) (fun h => by cases h)) rfl rfl ?_
     refine o_as ?_
     refine o_nil ?_
     refine w_ret ⟨.inr rfl, rfl, .bool (nodesB true (parseF tx src 65536).1 (parseF tx (fullI tx src bs) 65536).1), (show resultA Try.prog [.tmp 4] _ = _ from tR), ?_⟩
     try dsimp only
     refine ⟨congrArg AV.bool ?_, E24⟩; first | rfl | (exfalso; omega) | (exact decide_eq_true (by rw [parseF_scan (by omega)]; omega)) | exact nodesB_t.2 hlaw.2 | (exfalso; have := hlaw.1; omega)
end Go.Proofs.Ytehmhhlhlipbnaa.Vs
