/-
 texts and blanks of squintlaw03.
-/
import Derived.Test.YtehmhhlhlipbnaaPlain7
import Derived.Test.YtehmhhlhlipbnaaVjM
import Derived.Test.YtehmhhlhlipbnaaLaw2
set_option autoImplicit false
set_option linter.unusedVariables false
set_option linter.unusedSimpArgs false
set_option maxRecDepth 100000
set_option maxHeartbeats 4000000
namespace Go.Proofs.Ytehmhhlhlipbnaa.Vs
open Go.VI Go.Proofs
variable {orc : CallF}
theorem room1' {n : Nat} (h : n ≤ 140737488500000) : room n 1 = true := by
 have h1 : Nat.ble ((n + n / 4 + 192) * 1) 281474976710656 = true := by rw [Nat.ble_eq]; omega
 have h2 : Nat.ble n 281474976710656 = true := by rw [Nat.ble_eq]; omega
 simp only [room, h1, h2, Bool.and_self, Bool.or_true]
/-- the tokens' texts -/
def textsF (tx : Nat → List UInt8) (src : List UInt8) : List (List UInt8) := if (scanF tx src).2.2 = 0 then (scanF tx src).1.map (tkF src) else []
theorem noEnd_snoc {s : List UInt8} {i : Nat} (h : i < s.length) : noEnd (s.take (i + 1)) = if isRem s[i] = true then noEnd (s.take i) ++ [s[i]] else noEnd (s.take i) := by
 unfold noEnd
 rw [List.take_succ_eq_append_getElem h, List.filter_append]
 cases hq : isRem s[i] <;> simp [hq]
theorem texts_fin (ho : NoOrcBut [7, 21, 69, 81] orc) {H0 : AH} (W0 : Wf H0) (ho81 : ∃ sg, ∀ H, orc 81 [] H = some (.ret sg, H)) (tx : Nat → List UInt8) (ho69 : ∀ k : Nat, k < 67 → ∀ H, orc 69 [.int .i64 (k : Int)] H = some (.ret (.str (tx k)), H)) (src : List UInt8) (sv : AV) (hS : SB H0 5 src sv) : Fin Try.prog orc 12 [sv] H0 (fun r H' => ∃ s, r = .tup [s, .bool (decide ((scanF tx src).2.2 = 0))] ∧ SW H' (textsF tx src) s ∧ Ext H0 H') := by
 have E0 := Ext.refl W0
 refine fin_of Try.func12 rfl (by rw [Try.ntmps12]; simp) (ho _ rfl _ _) ?_
 rw [Try.ntmps12]
 refine w_sr ?_
 refine o_as ?_
 refine o_as ?_
 refine o_nil ?_
 refine w_sr ?_
 refine o_mv ?_
 refine o_cl rfl rfl tS rfl (scan_fin ho W0 ho81 tx ho69 src _ (hS.ext E0)) rfl rfl ?_; rintro _ H1 ⟨tv1, rfl, hTS1, X1⟩
 have W1 := X1.wf; have E1 := E0.trans X1
 have n1 := X1.n
 refine o_mv ?_
 refine o_rd (r_extract tE rfl) rfl rfl ?_
 refine o_rd (r_extract tE rfl) rfl rfl ?_
 refine o_nw W1 (a_alloc Ty.zero34) rfl rfl rfl (by simp) ?_; intro H2 n2 W2 X2 A2
 have A2 : H2.at H1.n = some (.row [.int .i64 (0), .int .i64 (0)] 34 false none) := A2
 have E2 := E1.trans X2
 have g2 : H0.n ≤ H1.n := E1.n
 refine o_as ?_
 refine o_st W2 tE tE A2 Ty.csz34 rfl (Nat.le_of_ble_eq_true rfl) (by rfl) rfl rfl ?_; intro H3 n3 W3 A3 K3
 have A3 : H3.at H1.n = some (.row [.int .i64 ((scanF tx src).2.1), .int .i64 ((scanF tx src).2.2)] 34 false none) := A3
 have E3 := Ext.put W0 E2 (by have := E2.n; omega) K3 n3 W3
 refine o_nil ?_
 refine w_seq ?_
 refine w_sr ?_
 refine o_rd (r_fieldAddr Ty.fo34_1 tE) rfl rfl ?_
 refine o_rd (r_load1 (v := .int .i64 ((scanF tx src).2.2)) Ty.agg32 tE (read_mt A3 (Nat.le_of_ble_eq_true rfl))) rfl rfl ?_
 refine o_rd (r_ne (a := (scanF tx src).2.2) (b := 0) tE tE) rfl rfl ?_
 refine o_nil ?_
 refine w_cond tE (fun hB4 => ?_) (fun hB4 => ?_)
 ·have hc4 := dec_t hB4
  refine w_sr ?_
  refine o_as ?_
  refine o_as ?_
  refine o_nil ?_
  refine w_ret ⟨.inr rfl, rfl, .tup [.nils, .bool (false)], (show resultA Try.prog [.tmp 2, .tmp 3] _ = _ from tR), ?_⟩
  try dsimp only
  first | (exfalso; omega) | exact ⟨.nils, by rw [decide_eq_false (by omega)], by rw [textsF, if_neg (by omega)]; exact .nil, E3⟩
 ·have hc4 := dec_fn hB4
  refine w_skip ?_
  refine w_sr ?_
  have hz : (scanF tx src).2.2 = 0 := by omega
  have hTl := (tok_ok (tx := tx) (src := src) hz).len
  have hallT := fun i (h : i < (scanF tx src).1.length) => (scanF_inc (tx := tx) (src := src) hz).1.all i h
  have hsl := (scanF_inc (tx := tx) (src := src) hz).2.2.2
  have WQ := W3; have EQ := E3; have XQ0 := Ext.refl W3
  have aq5 := A3
  refine o_as ?_
  refine o_nil ?_
  refine w_seq ?_
  refine w_sr ?_
  refine o_mv ?_
  have hEQT : Ext H1 H3 := (Ext.put W1 X2 (by omega) K3 n3 W3)
  refine o_rd (r_len (n := (scanF tx src).1.length) Try.underlying43 tE hTS1.lenOf) rfl rfl ?_
  refine o_mv ?_
  refine o_nil ?_
  refine w_block ?_
  refine w_loop (fun m s => ∃ (e : Env) (H : AH) (i : Nat) (so : AV), s = ⟨e, H, []⟩ ∧ e.val 0 = sv ∧ e.val 2 = .nils ∧ e.val 3 = .bool (false) ∧ e.val 6 = so ∧ e.val 17 = tv1 ∧ e.val 18 = .int .i64 ((((scanF tx src).1.length : Nat) : Int)) ∧ e.val 19 = .int .i64 (((i : Nat) : Int)) ∧ Wf H ∧ Ext H0 H ∧ H.at (H1.n) = some (.row [.int .i64 ((scanF tx src).2.1), .int .i64 ((scanF tx src).2.2)] 34 false none) ∧ (i + m = (scanF tx src).1.length) ∧ (GX H3 H.n H 9 1 ((((scanF tx src).1.take i).map (tkF src)).map AV.str) i so) ∧ (Ext H1 H) ∧ (Ext H3 H)) ((scanF tx src).1.length) ⟨_, H3, 0, .nils, rfl, tV, tV, tV, tV, tV, tV, tV, W3, E3, A3, (by omega), GX.nil, (Ext.put W1 X2 (by omega) K3 n3 W3), XQ0⟩ ?_
  intro m s hi
  obtain ⟨e, H6, i, so, rfl, vt0, vt2, vt3, vt6, vt17, vt18, vt19, W6, E6, A3, him, HG, hET, hXQ⟩ := hi
  have vA := And.intro vt0 (And.intro vt2 (And.intro vt3 (And.intro vt6 (And.intro vt17 (And.intro vt18 vt19)))))
  have l6_0 := W6.lt A3
  refine w_sr ?_
  refine o_rd (r_lt (a := ((i : Nat) : Int)) (b := (((scanF tx src).1.length : Nat) : Int)) tE tE) rfl rfl ?_
  refine o_nil ?_
  refine w_seq ?_
  refine w_cond tE (fun hB7 => ?_) (fun hB7 => ?_)
  ·have hc7 := dec_t hB7
   refine w_skip ?_
   refine w_seq ?_
   refine w_block ?_
   refine w_sr ?_
   have hil : i < (scanF tx src).1.length := by omega
   obtain ⟨loc1, off1, cap1, rfl, hrt⟩ := hTS1.get hil
   have htr := hallT i hil
   refine o_rd (r_indexAddr Try.underlying43 Ty.csz47 tE tE hil) rfl rfl ?_
   refine o_rd (r_loadN Ty.agg47 Ty.csz47 tE (hET.read hrt)) rfl rfl ?_
   refine o_nw W6 (a_alloc Ty.zero47) rfl rfl rfl (by simp) ?_; intro H8 n8 W8 X8 A8
   have A8 : H8.at H6.n = some (.row [.int .i64 (0), .int .i64 (0), .int .i64 (0), .int .i64 (0)] 47 false none) := A8
   have E8 := E6.trans X8
   have g8 : H0.n ≤ H6.n := E6.n
   have A3 := X8.keep _ _ A3
   refine o_st W8 tE tE A8 Ty.csz47 rfl (Nat.le_of_ble_eq_true rfl) (by rfl) rfl rfl ?_; intro H9 n9 W9 A9 K9
   have A9 : H9.at H6.n = some (.row [.int .i64 (((scanF tx src).1[i]'hil).k), .int .i64 (((scanF tx src).1[i]'hil).at_), .int .i64 (((scanF tx src).1[i]'hil).len), .int .i64 (((scanF tx src).1[i]'hil).num)] 47 false none) := A9
   have E9 := Ext.put W0 E8 (by have := E8.n; omega) K9 n9 W9
   have A3 := K9.own A3 (by omega)
   refine o_nil ?_
   refine w_seq ?_
   refine w_sr ?_
   obtain ⟨ta, hta⟩ : ∃ n : Nat, ((scanF tx src).1[i]'hil).at_ = (n : Int) := ⟨((scanF tx src).1[i]'hil).at_.toNat, by omega⟩
   obtain ⟨tl, htl⟩ : ∃ n : Nat, ((scanF tx src).1[i]'hil).len = (n : Int) := ⟨((scanF tx src).1[i]'hil).len.toNat, by omega⟩
   have htk : tkF src ((scanF tx src).1[i]'hil) = (src.drop ta).take tl := by unfold tkF; rw [hta, htl]; simp
   rw [hta, htl] at A9
   obtain ⟨locS, offS, capS, rfl, _, hcS, hcutS⟩ := hS.open_ (by omega)
   have ht9 := hS.mid (c := ta) (m := tl) (by omega)
   refine o_rd (r_fieldAddr Ty.fo47_1 tE) rfl rfl ?_
   refine o_rd (r_load1 (v := .int .i64 (((ta : Nat) : Int))) Ty.agg3 tE (read_mt A9 (Nat.le_of_ble_eq_true rfl))) rfl rfl ?_
   refine o_rd (r_lt (a := ((ta : Nat) : Int)) (b := 0) tE tE) rfl rfl ?_
   refine o_mv ?_
   cases hg10 : (decide (((ta : Nat) : Int) < 0) : Bool)
   ·have hg10 := dec_f hg10
    refine o_rd (r_fieldAddr Ty.fo47_2 tE) rfl ((wanted_of (b := false) rfl rfl rfl tV).trans rfl) ?_
    refine o_rd (r_load1 (v := .int .i64 (((tl : Nat) : Int))) Ty.agg3 tE (read_mt A9 (Nat.le_of_ble_eq_true rfl))) rfl ((wanted_of (b := false) rfl rfl rfl tV).trans rfl) ?_
    refine o_rd (r_lt (a := ((tl : Nat) : Int)) (b := 0) tE tE) rfl ((wanted_of (b := false) rfl rfl rfl tV).trans rfl) ?_
    refine o_rd (r_pick (t := false) tE (fun h => by cases h) (fun _ => tE)) rfl rfl ?_
    refine o_mv ?_
    cases hg11 : (decide (((tl : Nat) : Int) < 0) : Bool)
    ·have hg11 := dec_f hg11
     refine o_rd (r_fieldAddr Ty.fo47_1 tE) rfl ((wanted_of (b := false) rfl rfl rfl tV).trans rfl) ?_
     refine o_rd (r_load1 (v := .int .i64 (((ta : Nat) : Int))) Ty.agg3 tE (read_mt A9 (Nat.le_of_ble_eq_true rfl))) rfl ((wanted_of (b := false) rfl rfl rfl tV).trans rfl) ?_
     refine o_rd (r_fieldAddr Ty.fo47_2 tE) rfl ((wanted_of (b := false) rfl rfl rfl tV).trans rfl) ?_
     refine o_rd (r_load1 (v := .int .i64 (((tl : Nat) : Int))) Ty.agg3 tE (read_mt A9 (Nat.le_of_ble_eq_true rfl))) rfl ((wanted_of (b := false) rfl rfl rfl tV).trans rfl) ?_
     refine o_rd (r_addE (a := ((ta : Nat) : Int)) (b := ((tl : Nat) : Int)) (c := ((ta + tl : Nat) : Int)) tE tE (by omega) (by omega) (by omega)) rfl ((wanted_of (b := false) rfl rfl rfl tV).trans rfl) ?_
     refine o_rd (r_move tE) rfl ((wanted_of (b := false) rfl rfl rfl tV).trans rfl) ?_
     refine o_rd (r_len (n := src.length) Try.underlying22 tE rfl) rfl ((wanted_of (b := false) rfl rfl rfl tV).trans rfl) ?_
     refine o_rd (r_gt (a := ((ta + tl : Nat) : Int)) (b := ((src.length : Nat) : Int)) tE tE) rfl ((wanted_of (b := false) rfl rfl rfl tV).trans rfl) ?_
     refine o_rd (r_pick (t := false) tE (fun h => by cases h) (fun _ => tE)) rfl rfl ?_
     refine o_nil ?_
     refine w_cond tE (fun hB12 => ?_) (fun hB12 => ?_)
     ·have hc12 := dec_t hB12
      refine w_sr ?_
      refine o_as ?_
      refine o_as ?_
      refine o_nil ?_
      refine w_ret ⟨.inr rfl, rfl, .tup [.nils, .bool (false)], (show resultA Try.prog [.tmp 2, .tmp 3] _ = _ from tR), ?_⟩
      try dsimp only
      first | (exfalso; omega) | exact ⟨.nils, by rw [decide_eq_false (by omega)], by rw [textsF, if_neg (by omega)]; exact .nil, E9⟩
     ·have hc12 := dec_f hB12
      refine w_skip ?_
      refine w_region ?_
      refine o_mv ?_
      refine o_mv ?_
      refine o_rd (r_fieldAddr Ty.fo47_1 tE) rfl rfl ?_
      refine o_rd (r_load1 (v := .int .i64 (((ta : Nat) : Int))) Ty.agg3 tE (read_mt A9 (Nat.le_of_ble_eq_true rfl))) rfl rfl ?_
      refine o_rd (r_fieldAddr Ty.fo47_1 tE) rfl rfl ?_
      refine o_rd (r_load1 (v := .int .i64 (((ta : Nat) : Int))) Ty.agg3 tE (read_mt A9 (Nat.le_of_ble_eq_true rfl))) rfl rfl ?_
      refine o_rd (r_fieldAddr Ty.fo47_2 tE) rfl rfl ?_
      refine o_rd (r_load1 (v := .int .i64 (((tl : Nat) : Int))) Ty.agg3 tE (read_mt A9 (Nat.le_of_ble_eq_true rfl))) rfl rfl ?_
      refine o_rd (r_addE (a := ((ta : Nat) : Int)) (b := ((tl : Nat) : Int)) (c := ((ta + tl : Nat) : Int)) tE tE (by omega) (by omega) (by omega)) rfl rfl ?_
      refine o_rd ((r_sliceLH (i := ta) (j := ta + tl) Try.underlying22 Ty.csz5 tE tE tE (by omega) (by omega) (cutOk_ext E9 hcutS)).trans (by rw [show ta + tl - ta = tl by omega])) rfl rfl ?_
      refine o_rd (r_bytesStr (l := (src.drop ta).take tl) Try.underlying22 Try.underlying9 Try.underlying5 Ty.csz5 tE (ht9.ext E9)) rfl rfl ?_
      have HG2 := ((HG.ext X8).put K9 (by omega)); have hXp := (Ext.put WQ (hXQ.trans X8) (by have := hXQ.n; omega) K9 n9 W9)
      refine o_nw W9 (a_build1 Try.underlying30 Ty.csz9 Ty.zero9 rfl tE rfl (by decide)) rfl rfl rfl (by simp) ?_; intro H13 n13 W13 X13 A13
      have E13 := E9.trans X13; have hXn := hXp.trans X13
      refine o_apF WQ W13 hXn Try.underlying30 Try.underlying30 rfl Ty.csz9 Ty.byt9 Ty.zero9 rfl tE tE (HG2.ext X13) A13 rfl rfl (by omega) rfl rfl ?_; intro so2 H14 HG3 W14 hXQ2 F14
      have E14 := EQ.trans hXQ2
      have HG3 : GX H3 H14.n H14 9 1 ((((scanF tx src).1.take (i + 1)).map (tkF src)).map AV.str) (i + 1) so2 := by
       rw [List.take_succ_eq_append_getElem hil, List.map_append, List.map_append]; simp only [List.map_cons, List.map_nil, htk]; exact HG3
      have A3 := hXQ2.keep _ _ aq5
      refine o_as ?_
      refine o_nil ?_
      refine w_region ?_
      refine o_rd (r_addE (a := ((i : Nat) : Int)) (b := 1) (c := ((i + 1 : Nat) : Int)) tE tE (by omega) (by omega) (by omega)) rfl rfl ?_
      refine o_mv ?_
      refine o_nil ?_
      exact ⟨m - 1, (by omega), _, H14, i + 1, so2, rfl, tV, tV, tV, tV, tV, tV, tV, W14, E14, A3, (by omega), HG3, (hEQT.trans hXQ2), hXQ2⟩
    ·have hg11 := dec_t hg11
     refine o_sk rfl ((wanted_of (b := true) rfl rfl rfl tV).trans rfl) ?_
     refine o_sk rfl ((wanted_of (b := true) rfl rfl rfl tV).trans rfl) ?_
     refine o_sk rfl ((wanted_of (b := true) rfl rfl rfl tV).trans rfl) ?_
     refine o_sk rfl ((wanted_of (b := true) rfl rfl rfl tV).trans rfl) ?_
     refine o_sk rfl ((wanted_of (b := true) rfl rfl rfl tV).trans rfl) ?_
     refine o_sk rfl ((wanted_of (b := true) rfl rfl rfl tV).trans rfl) ?_
     refine o_sk rfl ((wanted_of (b := true) rfl rfl rfl tV).trans rfl) ?_
     refine o_sk rfl ((wanted_of (b := true) rfl rfl rfl tV).trans rfl) ?_
     refine o_rd (r_pick (t := true) tE (fun _ => tE) (fun h => by cases h)) rfl rfl ?_
     refine o_nil ?_
     refine w_cond (t := true) tE (fun _ => ?_) (fun h => by cases h)
     refine w_sr ?_
     refine o_as ?_
     refine o_as ?_
     refine o_nil ?_
     refine w_ret ⟨.inr rfl, rfl, .tup [.nils, .bool (false)], (show resultA Try.prog [.tmp 2, .tmp 3] _ = _ from tR), ?_⟩
     try dsimp only
     first | (exfalso; omega) | exact ⟨.nils, by rw [decide_eq_false (by omega)], by rw [textsF, if_neg (by omega)]; exact .nil, E9⟩
   ·have hg10 := dec_t hg10
    refine o_sk rfl ((wanted_of (b := true) rfl rfl rfl tV).trans rfl) ?_
    refine o_sk rfl ((wanted_of (b := true) rfl rfl rfl tV).trans rfl) ?_
    refine o_sk rfl ((wanted_of (b := true) rfl rfl rfl tV).trans rfl) ?_
    refine o_rd (r_pick (t := true) tE (fun _ => tE) (fun h => by cases h)) rfl rfl ?_
    refine o_mv ?_
    refine o_sk rfl ((wanted_of (b := true) rfl rfl rfl tV).trans rfl) ?_
    refine o_sk rfl ((wanted_of (b := true) rfl rfl rfl tV).trans rfl) ?_
    refine o_sk rfl ((wanted_of (b := true) rfl rfl rfl tV).trans rfl) ?_
    refine o_sk rfl ((wanted_of (b := true) rfl rfl rfl tV).trans rfl) ?_
    refine o_sk rfl ((wanted_of (b := true) rfl rfl rfl tV).trans rfl) ?_
    refine o_sk rfl ((wanted_of (b := true) rfl rfl rfl tV).trans rfl) ?_
    refine o_sk rfl ((wanted_of (b := true) rfl rfl rfl tV).trans rfl) ?_
    refine o_sk rfl ((wanted_of (b := true) rfl rfl rfl tV).trans rfl) ?_
    refine o_rd (r_pick (t := true) tE (fun _ => tE) (fun h => by cases h)) rfl rfl ?_
    refine o_nil ?_
    refine w_cond (t := true) tE (fun _ => ?_) (fun h => by cases h)
    refine w_sr ?_
    refine o_as ?_
    refine o_as ?_
    refine o_nil ?_
    refine w_ret ⟨.inr rfl, rfl, .tup [.nils, .bool (false)], (show resultA Try.prog [.tmp 2, .tmp 3] _ = _ from tR), ?_⟩
    try dsimp only
    first | (exfalso; omega) | exact ⟨.nils, by rw [decide_eq_false (by omega)], by rw [textsF, if_neg (by omega)]; exact .nil, E9⟩
  ·have hc7 := dec_f hB7
   first | refine w_exit (blk_exit ?_) | refine w_exit (show (0 = 0 → _) ∧ (0 ≠ 0 → _) from ⟨fun _ => ?_, fun c => absurd rfl c⟩)
   refine w_sr ?_
   refine o_mv ?_
   refine o_as ?_
   refine o_as ?_
   refine o_nil ?_
   refine w_ret ⟨.inr rfl, rfl, .tup [so, .bool (true)], (show resultA Try.prog [.tmp 2, .tmp 3] _ = _ from tR), ?_⟩
   try dsimp only
   have hil : i = (scanF tx src).1.length := by omega
   subst hil
   rw [List.take_length] at HG
   exact ⟨so, by rw [decide_eq_true hz], SW.of (by rw [textsF, if_pos hz]; rw [List.length_map]; exact HG) (by rw [textsF, if_pos hz]; simp; omega), E6⟩
theorem a_buildB {P : Program} {e : Env} {t el : TypeId} {z : Int} (ht : P.underlying t = some (.slice el)) (hs : csz P el = some 1) (hz : zeroOf P el = some (.int .u8 z)) (a b : Int) :
  allocOp P e (.buildSlice t 2 #[(0, .const (.int .u8 a)), (1, .const (.int .u8 b))]) = some (.row [.int .u8 a, .int .u8 b] el false none, fun c => freshSl c 2 2) := by
 simp only [allocOp, doBuildSlice, ht, evParts, ev, ofValue, ofCell, buildSl1, hs, hz]
 rfl
theorem blanks_fin (ho : NoOrcBut [7, 21, 69, 81] orc) {H0 : AH} (W0 : Wf H0) (bt : List UInt8) (hsl : bt.length ≤ 4611686018427387904) : Fin Try.prog orc 13 [.str (bt)] H0 (fun r H' => r = .str (blanksF bt) ∧ Ext H0 H') := by
 have E0 := Ext.refl W0
 refine fin_of Try.func13 rfl (by rw [Try.ntmps13]; simp) (ho _ rfl _ _) ?_
 rw [Try.ntmps13]
 refine w_sr ?_
 refine o_as ?_
 refine o_nil ?_
 refine w_sr ?_
 have WQ := W0; have EQ := E0; have XQ0 := Ext.refl W0
 refine o_nw W0 (a_buildB Try.underlying22 Ty.csz5 Ty.zero5 32 35) rfl rfl rfl (by simp) ?_; intro H1 n1 W1 X1 A1
 have E1 := E0.trans X1
 have hcv := A1; refine o_cv (el := 5) (s := 22) Try.underlying22 Try.underlying5 tE A1 (by decide) rfl rfl ?_
 have HG0 : GB H0 H1.n H1 5 [32, 35] (freshSl (H0.n) 2 2) := .inr ⟨by decide, H0.n, none, ⟨Nat.le_refl _, fun f h => by cases h⟩, by omega, own_fresh A1 rfl⟩
 have HX0 := X1
 refine o_as ?_
 refine o_nil ?_
 refine w_seq ?_
 refine w_sr ?_
 refine o_as ?_
 refine o_nil ?_
 refine w_block ?_
 refine w_loop (fun m s => ∃ (e : Env) (H : AH) (i : Nat) (so : AV), s = ⟨e, H, []⟩ ∧ e.val 0 = .str (bt) ∧ e.val 2 = .str ([]) ∧ e.val 3 = so ∧ e.val 4 = .int .i64 (((i : Nat) : Int)) ∧ Wf H ∧ Ext H0 H ∧ (i + m = 50) ∧ (i ≤ bt.length) ∧ (GB H0 H.n H 5 (32 :: 35 :: noEnd (bt.take i)) so) ∧ (Ext H0 H) ∧ ((noEnd (bt.take i)).length ≤ 50)) (50) ⟨_, H1, 0, (freshSl (H0.n) 2 2), rfl, tV, tV, tV, tV, W1, E1, (by omega), (by omega), HG0, HX0, (by simp [noEnd])⟩ ?_
 intro m s hi
 obtain ⟨e, H2, i, so, rfl, vt0, vt2, vt3, vt4, W2, E2, him, hil, HG, hXQ, hnl⟩ := hi
 have vA := And.intro vt0 (And.intro vt2 (And.intro vt3 vt4))
 refine w_seq ?_
 refine w_sr ?_
 refine o_mv ?_
 refine o_mv ?_
 refine o_rd (r_lenStr Try.underlying9 tE) rfl rfl ?_
 refine o_rd (r_lt (a := ((i : Nat) : Int)) (b := (((bt).length : Nat) : Int)) tE tE) rfl rfl ?_
 refine o_mv ?_
 cases hg3 : (decide (((i : Nat) : Int) < (((bt).length : Nat) : Int)) : Bool)
 ·have hg3 := dec_f hg3
  refine o_sk rfl ((wanted_of (b := false) rfl rfl rfl tV).trans rfl) ?_
  refine o_sk rfl ((wanted_of (b := false) rfl rfl rfl tV).trans rfl) ?_
  refine o_rd (r_pick (t := false) tE (fun h => by cases h) (fun _ => tE)) rfl rfl ?_
  refine o_nil ?_
  refine w_cond (t := false) tE (fun h => by cases h) (fun _ => ?_)
  first | refine w_exit (blk_exit ?_) | refine w_exit (show (0 = 0 → _) ∧ (0 ≠ 0 → _) from ⟨fun _ => ?_, fun c => absurd rfl c⟩)
  refine w_sr ?_
  refine o_mv ?_
  refine o_nw W2 (a_build1 Try.underlying22 Ty.csz5 Ty.zero5 rfl tE rfl (by decide)) rfl rfl rfl (by simp) ?_; intro H4 n4 W4 X4 A4
  have E4 := E2.trans X4; have hXm := hXQ.trans X4
  refine o_apB WQ W4 hXm Try.underlying22 Try.underlying22 rfl Ty.csz5 Ty.byt5 Ty.zero5 rfl tE tE (HG.ext X4 : GB H0 _ _ 5 (32 :: 35 :: noEnd (bt.take i)) _) (m := [10]) (src_fresh (n := 1) A4 rfl) (room1' (by simp only [List.length_cons, List.length_nil]; omega)) rfl rfl ?_; intro so2 H5 HG4 W5 hXQ2 nn5 F5
  have E5 := EQ.trans hXQ2
  have hti : bt.take i = bt.take 50 := by
   by_cases c : i = 50
   ·rw [c]
   ·rw [List.take_of_length_le (show bt.length ≤ i by omega), List.take_of_length_le (show bt.length ≤ 50 by omega)]
  have hbF : (32 :: 35 :: noEnd (bt.take i)) ++ [10] = blanksF bt := by rw [hti]; rfl
  rw [hbF] at HG4
  have hbl : (blanksF bt).length ≤ 53 := by rw [← hbF]; simp; omega
  refine o_rd (r_bytesStr (l := blanksF bt) Try.underlying22 Try.underlying9 Try.underlying5 Ty.csz5 tE (HG4.sb (by omega))) rfl rfl ?_
  refine o_as ?_
  refine o_nil ?_
  refine w_ret ⟨.inr rfl, rfl, .str (blanksF bt), (show resultA Try.prog [.tmp 2] _ = _ from tR), ?_⟩
  try dsimp only
  exact ⟨rfl, E5⟩
 ·have hg3 := dec_t hg3
  refine o_rd (r_move tE) rfl ((wanted_of (b := true) rfl rfl rfl tV).trans rfl) ?_
  refine o_rd (r_lt (a := ((i : Nat) : Int)) (b := 50) tE tE) rfl ((wanted_of (b := true) rfl rfl rfl tV).trans rfl) ?_
  refine o_rd (r_pick (t := true) tE (fun _ => tE) (fun h => by cases h)) rfl rfl ?_
  refine o_nil ?_
  refine w_cond tE (fun hB6 => ?_) (fun hB6 => ?_)
  ·have hc6 := dec_t hB6
   refine w_skip ?_
   refine w_seq ?_
   refine w_block ?_
   refine w_sr ?_
   refine o_mv ?_
   refine o_mv ?_
   have hiS : i < bt.length := by omega
   refine o_rd (r_idxS (j := i) (c := bt[i]) Try.underlying9 tE tE (List.getElem?_eq_getElem hiS)) rfl rfl ?_
   refine o_rd (r_ne (a := ((bt[i].toNat : Nat) : Int)) (b := 10) tE tE) rfl rfl ?_
   refine o_nil ?_
   refine w_cond tE (fun hB7 => ?_) (fun hB7 => ?_)
   ·have hc7 := dec_t hB7
    refine w_region ?_
    refine o_mv ?_
    refine o_mv ?_
    refine o_mv ?_
    refine o_rd (r_idxS (j := i) (c := bt[i]) Try.underlying9 tE tE (List.getElem?_eq_getElem hiS)) rfl rfl ?_
    refine o_nw W2 (a_build1 Try.underlying22 Ty.csz5 Ty.zero5 rfl tE rfl (by decide)) rfl rfl rfl (by simp) ?_; intro H8 n8 W8 X8 A8
    have E8 := E2.trans X8; have hXm := hXQ.trans X8
    refine o_apB WQ W8 hXm Try.underlying22 Try.underlying22 rfl Ty.csz5 Ty.byt5 Ty.zero5 rfl tE tE (HG.ext X8 : GB H0 _ _ 5 (32 :: 35 :: noEnd (bt.take i)) _) (m := [bt[i]]) (src_fresh (n := 1) A8 rfl) (room1' (by simp only [List.length_cons, List.length_nil]; omega)) rfl rfl ?_; intro so2 H9 HG3 W9 hXQ2 nn9 F9
    have E9 := EQ.trans hXQ2
    refine o_as ?_
    refine o_nil ?_
    refine w_region ?_
    refine o_mv ?_
    refine o_rd (r_addE (a := ((i : Nat) : Int)) (b := 1) (c := ((i + 1 : Nat) : Int)) tE tE (by omega) (by omega) (by omega)) rfl rfl ?_
    refine o_as ?_
    refine o_nil ?_
    have hsn := noEnd_snoc hiS
    have hnl2 : (noEnd (bt.take (i + 1))).length ≤ 50 := Nat.le_trans (List.length_filter_le _ _) (by simp; omega)
    rw [show isRem bt[i] = true from decide_eq_true (by omega), if_pos rfl] at hsn
    exact ⟨m - 1, (by omega), _, H9, i + 1, so2, rfl, tV, tV, tV, tV, W9, E9, (by omega), (by omega), (by rw [hsn]; exact HG3), hXQ2, hnl2⟩
   ·have hc7 := dec_fn hB7
    refine w_skip ?_
    refine w_region ?_
    refine o_mv ?_
    refine o_rd (r_addE (a := ((i : Nat) : Int)) (b := 1) (c := ((i + 1 : Nat) : Int)) tE tE (by omega) (by omega) (by omega)) rfl rfl ?_
    refine o_as ?_
    refine o_nil ?_
    have hsn := noEnd_snoc hiS
    have hnl2 : (noEnd (bt.take (i + 1))).length ≤ 50 := Nat.le_trans (List.length_filter_le _ _) (by simp; omega)
    rw [show isRem bt[i] = false from decide_eq_false (by omega), if_neg (by decide)] at hsn
    exact ⟨m - 1, (by omega), _, H2, i + 1, so, rfl, tV, tV, tV, tV, W2, E2, (by omega), (by omega), (by rw [hsn]; exact HG), hXQ, hnl2⟩
  ·have hc6 := dec_f hB6
   first | refine w_exit (blk_exit ?_) | refine w_exit (show (0 = 0 → _) ∧ (0 ≠ 0 → _) from ⟨fun _ => ?_, fun c => absurd rfl c⟩)
   refine w_sr ?_
   refine o_mv ?_
   refine o_nw W2 (a_build1 Try.underlying22 Ty.csz5 Ty.zero5 rfl tE rfl (by decide)) rfl rfl rfl (by simp) ?_; intro H10 n10 W10 X10 A10
   have E10 := E2.trans X10; have hXm := hXQ.trans X10
   refine o_apB WQ W10 hXm Try.underlying22 Try.underlying22 rfl Ty.csz5 Ty.byt5 Ty.zero5 rfl tE tE (HG.ext X10 : GB H0 _ _ 5 (32 :: 35 :: noEnd (bt.take i)) _) (m := [10]) (src_fresh (n := 1) A10 rfl) (room1' (by simp only [List.length_cons, List.length_nil]; omega)) rfl rfl ?_; intro so2 H11 HG4 W11 hXQ2 nn11 F11
   have E11 := EQ.trans hXQ2
   have hti : bt.take i = bt.take 50 := by
    by_cases c : i = 50
    ·rw [c]
    ·rw [List.take_of_length_le (show bt.length ≤ i by omega), List.take_of_length_le (show bt.length ≤ 50 by omega)]
   have hbF : (32 :: 35 :: noEnd (bt.take i)) ++ [10] = blanksF bt := by rw [hti]; rfl
   rw [hbF] at HG4
   have hbl : (blanksF bt).length ≤ 53 := by rw [← hbF]; simp; omega
   refine o_rd (r_bytesStr (l := blanksF bt) Try.underlying22 Try.underlying9 Try.underlying5 Ty.csz5 tE (HG4.sb (by omega))) rfl rfl ?_
   refine o_as ?_
   refine o_nil ?_
   refine w_ret ⟨.inr rfl, rfl, .str (blanksF bt), (show resultA Try.prog [.tmp 2] _ = _ from tR), ?_⟩
   try dsimp only
   exact ⟨rfl, E11⟩
end Go.Proofs.Ytehmhhlhlipbnaa.Vs
