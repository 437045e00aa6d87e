/-
 ParseBeginnings, gone through: what it answers.
-/
import Derived.Test.YtehmhhlhlipbnaaLaw2
import Derived.Test.YtehmhhlhlipbnaaPlain6
import Derived.Test.YtehmhhlhlipbnaaVjL
set_option autoImplicit false
set_option linter.unusedVariables false
set_option linter.unusedSimpArgs false
namespace Go.Proofs.Ytehmhhlhlipbnaa.Vs
open Go.VI Go.Proofs
variable {orc : CallF}
theorem r_ne34 {e : Env} {h : AH} {x y : Operand} {t' : TypeId} {a b c d : Int} (hx : ev e x = some (.agg [.int .i64 a, .int .i64 b])) (hy : ev e y = some (.agg [.int .i64 c, .int .i64 d])) : readOp Try.prog e h (.binOp .neq 34 x y t') = some (.bool (!(decide (a = c) && decide (b = d)))) := by
 simp only [readOp, doBin, hx, hy, binA, eqOk, guard34]
 exact congrArg (Option.map fun b => AV.bool !b) (eq34 9998 a b c d)
theorem room1 {n : Nat} (h : n ≤ 140737488500000) : room n 1 = true := by
 have h1 : Nat.ble ((n + n / 4 + 192) * 1) 281474976710656 = true := by rw [Nat.ble_eq]; omega
 have h2 : Nat.ble n 281474976710656 = true := by rw [Nat.ble_eq]; omega
 simp only [room, h1, h2, Bool.and_self, Bool.or_true]
set_option maxRecDepth 100000 in
set_option maxHeartbeats 4000000 in
theorem parseBeg_fin (ho : NoOrcBut [7, 21, 69, 81] orc) {H0 : AH} (W0 : Wf H0) (ho81 : ∃ sg, ∀ H, orc 81 [] H = some (.ret sg, H)) (tx : Nat → List UInt8) (ho69 : ∀ k : Nat, k < 67 → ∀ H, orc 69 [.int .i64 (k : Int)] H = some (.ret (.str (tx k)), H)) (ho7 : ∀ H, orc 7 [] H = some (.ret (.bool true), H)) (htr : TryOk orc tx) (src behind : List UInt8) (sv bv : AV) (hS : SB H0 5 src sv) (hB : SB H0 5 behind bv) (hbl : behind.length ≤ 140737488351232) (hK : BeginOk tx src behind) : Fin Try.prog orc 5 [sv, bv] H0 (fun r H' => r = .bool true ∧ Ext H0 H') := by
 have E0 := Ext.refl W0
 refine fin_of Try.func5 rfl (by rw [Try.ntmps5]; simp) (ho _ rfl _ _) ?_
 rw [Try.ntmps5]
 refine w_sr ?_
 refine o_as ?_
 refine o_nil ?_
 refine w_seq ?_
 refine w_sr ?_
 refine o_cl rfl rfl tS rfl (fin_orc ho7 W0) rfl rfl ?_; rintro _ H1 ⟨rfl, X1⟩
 have W1 := X1.wf; have E1 := E0.trans X1
 have n1 := X1.n
 refine o_rd (r_not tE) rfl rfl ?_
 refine o_nil ?_
 refine w_cond (t := false) tE (fun h => by cases h) (fun _ => ?_)
 refine w_skip ?_
 refine w_sr ?_
 refine o_mv ?_
 refine o_cl rfl rfl tS rfl (parse_fin ho W1 ho81 tx ho69 htr src _ (hS.ext E1) 65536 (fun h => parse_ok h)) rfl rfl ?_; rintro _ H2 ⟨s2, rfl, hNS2, X2⟩
 have W2 := X2.wf; have E2 := E1.trans X2
 have n2 := X2.n
 refine o_mv ?_
 refine o_rd (r_extract tE rfl) rfl rfl ?_
 refine o_rd (r_extract tE rfl) rfl rfl ?_
 refine o_nw W2 (a_alloc Ty.zero34) rfl rfl rfl (by simp) ?_; intro H3 n3 W3 X3 A3
 have A3 : H3.at H2.n = some (.row [.int .i64 (0), .int .i64 (0)] 34 false none) := A3
 have E3 := E2.trans X3
 have g3 : H0.n ≤ H2.n := E2.n
 refine o_as ?_
 refine o_st W3 tE tE A3 Ty.csz34 rfl (Nat.le_of_ble_eq_true rfl) (by rfl) rfl rfl ?_; intro H4 n4 W4 A4 K4
 have A4 : H4.at H2.n = some (.row [.int .i64 ((parseF tx src 65536).2.1), .int .i64 ((parseF tx src 65536).2.2)] 34 false none) := A4
 have E4 := Ext.put W0 E3 (by have := E3.n; omega) K4 n4 W4
 refine o_nil ?_
 refine w_sr ?_
 refine o_mv ?_
 refine o_cl rfl rfl tS rfl (scan_fin ho W4 ho81 tx ho69 src _ (hS.ext E4)) rfl rfl ?_; rintro _ H5 ⟨tv5, rfl, hTS5, X5⟩
 have W5 := X5.wf; have E5 := E4.trans X5
 have A4 := X5.keep _ _ A4
 have n5 := X5.n
 refine o_mv ?_
 refine o_rd (r_extract tE rfl) rfl rfl ?_
 refine o_rd (r_extract tE rfl) rfl rfl ?_
 refine o_nw W5 (a_alloc Ty.zero34) rfl rfl rfl (by simp) ?_; intro H6 n6 W6 X6 A6
 have A6 : H6.at H5.n = some (.row [.int .i64 (0), .int .i64 (0)] 34 false none) := A6
 have E6 := E5.trans X6
 have g6 : H0.n ≤ H5.n := E5.n
 have A4 := X6.keep _ _ A4
 refine o_as ?_
 refine o_st W6 tE tE A6 Ty.csz34 rfl (Nat.le_of_ble_eq_true rfl) (by rfl) rfl rfl ?_; intro H7 n7 W7 A7 K7
 have A7 : H7.at H5.n = some (.row [.int .i64 ((scanF tx src).2.1), .int .i64 ((scanF tx src).2.2)] 34 false none) := A7
 have E7 := Ext.put W0 E6 (by have := E6.n; omega) K7 n7 W7
 have A4 := K7.own A4 (by omega)
 refine o_nil ?_
 refine w_seq ?_
 refine w_sr ?_
 refine o_rd (r_fieldAddr Ty.fo34_1 tE) rfl rfl ?_
 refine o_rd (r_load1 (v := .int .i64 ((parseF tx src 65536).2.2)) Ty.agg32 tE (read_mt A4 (Nat.le_of_ble_eq_true rfl))) rfl rfl ?_
 refine o_rd (r_ne (a := (parseF tx src 65536).2.2) (b := 30) tE tE) rfl rfl ?_
 refine o_mv ?_
 cases hg8 : (decide ((parseF tx src 65536).2.2 ≠ 30) : Bool)
 ·have hg8 := dec_fn hg8
  refine o_rd (r_fieldAddr Ty.fo34_0 tE) rfl ((wanted_of (b := false) rfl rfl rfl tV).trans rfl) ?_
  refine o_rd (r_load1 (v := .int .i64 ((parseF tx src 65536).2.1)) Ty.agg3 tE (read_mt A4 (Nat.le_of_ble_eq_true rfl))) rfl ((wanted_of (b := false) rfl rfl rfl tV).trans rfl) ?_
  refine o_rd (r_move tE) rfl ((wanted_of (b := false) rfl rfl rfl tV).trans rfl) ?_
  refine o_rd (r_len (n := src.length) Try.underlying22 tE hS.lenOf) rfl ((wanted_of (b := false) rfl rfl rfl tV).trans rfl) ?_
  refine o_rd (r_ge (a := (parseF tx src 65536).2.1) (b := ((src.length : Nat) : Int)) tE tE) rfl ((wanted_of (b := false) rfl rfl rfl tV).trans rfl) ?_
  refine o_rd (r_pick (t := false) tE (fun h => by cases h) (fun _ => tE)) rfl rfl ?_
  refine o_mv ?_
  cases hg9 : (decide (((src.length : Nat) : Int) ≤ (parseF tx src 65536).2.1) : Bool)
  ·have hg9 := dec_f hg9
   refine o_rd (r_fieldAddr Ty.fo34_1 tE) rfl ((wanted_of (b := false) rfl rfl rfl tV).trans rfl) ?_
   refine o_rd (r_load1 (v := .int .i64 ((scanF tx src).2.2)) Ty.agg32 tE (read_mt A7 (Nat.le_of_ble_eq_true rfl))) rfl ((wanted_of (b := false) rfl rfl rfl tV).trans rfl) ?_
   refine o_rd (r_ne (a := (scanF tx src).2.2) (b := 0) tE tE) rfl ((wanted_of (b := false) rfl rfl rfl tV).trans rfl) ?_
   refine o_rd (r_pick (t := false) tE (fun h => by cases h) (fun _ => tE)) rfl rfl ?_
   refine o_nil ?_
   refine w_cond tE (fun hB10 => ?_) (fun hB10 => ?_)
   ·have hc10 := dec_t hB10
    refine w_sr ?_
    refine o_as ?_
    refine o_nil ?_
    refine w_ret ⟨.inr rfl, rfl, .bool (true), (show resultA Try.prog [.tmp 4] _ = _ by simp only [resultA, resultsA, envOf, val_set, ↓reduceIte, Nat.reduceEqDiff, Option.map_some] <;> rfl), ?_⟩
    try dsimp only
    refine ⟨congrArg AV.bool ?_, E7⟩; first | rfl | (exfalso; omega) | (exfalso; obtain ⟨q1, q2⟩ := hlong (by omega); simp [q1, q2, show (parseF tx src 65536).2.2 = 30 by omega] at hc10) | (rcases hshort with q | ⟨q1, q2⟩; exfalso; omega; exfalso; omega) | (rcases hshort with q | ⟨q1, q2⟩ <;> first | (exfalso; omega) | exact decide_eq_true (by omega) | omega)
   ·have hc10 := dec_fn hB10
    refine w_skip ?_
    refine w_sr ?_
    obtain ⟨i0, e0, t0, hi0, hat0, hae0, he0, hel, hap0, huq, hlong, hshort⟩ := hK.go (by omega) (by omega) (by omega)
    have hsl := (scanF_inc (tx := tx) (src := src) (by omega)).2.2.2
    obtain ⟨hi0l, hi0e⟩ := List.getElem?_eq_some_iff.1 hi0
    have hTl := (tok_ok (tx := tx) (src := src) (by omega)).len
    have hallT := fun i (h : i < (scanF tx src).1.length) => (scanF_inc (tx := tx) (src := src) (by omega)).1.all i h
    refine o_as ?_
    refine o_nil ?_
    refine w_seq ?_
    refine w_sr ?_
    refine o_mv ?_
    refine o_rd (r_len (n := (scanF tx src).1.length) Try.underlying43 tE hTS5.lenOf) rfl rfl ?_
    refine o_mv ?_
    refine o_nil ?_
    refine w_block ?_
    refine w_loop (fun m s => ∃ (e : Env) (H : AH) (i : Nat) (en : Nat), s = ⟨e, H, []⟩ ∧ e.val 0 = sv ∧ e.val 1 = bv ∧ e.val 4 = .bool (false) ∧ e.val 5 = s2 ∧ e.val 6 = .ptr (.mt (H2.n)) (0) ∧ e.val 7 = tv5 ∧ e.val 8 = .ptr (.mt (H5.n)) (0) ∧ e.val 9 = .int .i64 (((en : Nat) : Int)) ∧ e.val 46 = tv5 ∧ e.val 47 = .int .i64 ((((scanF tx src).1.length : Nat) : Int)) ∧ e.val 48 = .int .i64 (((i : Nat) : Int)) ∧ Wf H ∧ Ext H0 H ∧ H.at (H2.n) = some (.row [.int .i64 ((parseF tx src 65536).2.1), .int .i64 ((parseF tx src 65536).2.2)] 34 false none) ∧ H.at (H5.n) = some (.row [.int .i64 ((scanF tx src).2.1), .int .i64 ((scanF tx src).2.2)] 34 false none) ∧ (i + m = (scanF tx src).1.length) ∧ ((i ≤ i0 → en = 0) ∧ (i0 < i → en = e0)) ∧ (Ext H5 H)) ((scanF tx src).1.length) ⟨_, H7, 0, 0, rfl, tV, tV, tV, tV, tV, tV, tV, tV, tV, tV, tV, W7, E7, A4, A7, (by omega), (by omega), (Ext.put W5 X6 (by omega) K7 n7 W7)⟩ ?_
    intro m s hi
    obtain ⟨e, H11, i, en, rfl, vt0, vt1, vt4, vt5, vt6, vt7, vt8, vt9, vt46, vt47, vt48, W11, E11, A4, A7, him, hen, hET⟩ := hi
    have vA := And.intro vt0 (And.intro vt1 (And.intro vt4 (And.intro vt5 (And.intro vt6 (And.intro vt7 (And.intro vt8 (And.intro vt9 (And.intro vt46 (And.intro vt47 vt48)))))))))
    have l11_0 := W11.lt A4
    have l11_1 := W11.lt A7
    refine w_sr ?_
    refine o_rd (r_lt (a := ((i : Nat) : Int)) (b := (((scanF tx src).1.length : Nat) : Int)) tE tE) rfl rfl ?_
    refine o_nil ?_
    refine w_seq ?_
    refine w_cond tE (fun hB12 => ?_) (fun hB12 => ?_)
    ·have hc12 := dec_t hB12
     refine w_skip ?_
     refine w_seq ?_
     refine w_block ?_
     refine w_sr ?_
     have hil : i < (scanF tx src).1.length := by omega
     obtain ⟨loc1, off1, cap1, rfl, hrt⟩ := hTS5.get hil
     refine o_rd (r_indexAddr Try.underlying43 Ty.csz47 tE tE hil) rfl rfl ?_
     refine o_rd (r_loadN Ty.agg47 Ty.csz47 tE (hET.read hrt)) rfl rfl ?_
     refine o_nw W11 (a_alloc Ty.zero47) rfl rfl rfl (by simp) ?_; intro H13 n13 W13 X13 A13
     have A13 : H13.at H11.n = some (.row [.int .i64 (0), .int .i64 (0), .int .i64 (0), .int .i64 (0)] 47 false none) := A13
     have E13 := E11.trans X13
     have g13 : H0.n ≤ H11.n := E11.n
     have A4 := X13.keep _ _ A4
     have A7 := X13.keep _ _ A7
     refine o_st W13 tE tE A13 Ty.csz47 rfl (Nat.le_of_ble_eq_true rfl) (by rfl) rfl rfl ?_; intro H14 n14 W14 A14 K14
     have A14 : H14.at H11.n = some (.row [.int .i64 (((scanF tx src).1[i]'hil).k), .int .i64 (((scanF tx src).1[i]'hil).at_), .int .i64 (((scanF tx src).1[i]'hil).len), .int .i64 (((scanF tx src).1[i]'hil).num)] 47 false none) := A14
     have E14 := Ext.put W0 E13 (by have := E13.n; omega) K14 n14 W14
     have A4 := K14.own A4 (by omega)
     have A7 := K14.own A7 (by omega)
     refine o_nil ?_
     refine w_sr ?_
     refine o_rd (r_fieldAddr Ty.fo47_1 tE) rfl rfl ?_
     refine o_rd (r_load1 (v := .int .i64 (((scanF tx src).1[i]'hil).at_)) Ty.agg3 tE (read_mt A14 (Nat.le_of_ble_eq_true rfl))) rfl rfl ?_
     refine o_rd (r_fieldAddr Ty.fo34_0 tE) rfl rfl ?_
     refine o_rd (r_load1 (v := .int .i64 ((parseF tx src 65536).2.1)) Ty.agg3 tE (read_mt A4 (Nat.le_of_ble_eq_true rfl))) rfl rfl ?_
     refine o_rd (r_eq (a := ((scanF tx src).1[i]'hil).at_) (b := (parseF tx src 65536).2.1) tE tE) rfl rfl ?_
     refine o_nil ?_
     refine w_cond tE (fun hB15 => ?_) (fun hB15 => ?_)
     ·have hc15 := dec_t hB15
      refine w_region ?_
      refine o_rd (r_fieldAddr Ty.fo47_1 tE) rfl rfl ?_
      refine o_rd (r_load1 (v := .int .i64 (((scanF tx src).1[i]'hil).at_)) Ty.agg3 tE (read_mt A14 (Nat.le_of_ble_eq_true rfl))) rfl rfl ?_
      refine o_rd (r_fieldAddr Ty.fo47_2 tE) rfl rfl ?_
      refine o_rd (r_load1 (v := .int .i64 (((scanF tx src).1[i]'hil).len)) Ty.agg3 tE (read_mt A14 (Nat.le_of_ble_eq_true rfl))) rfl rfl ?_
      have hii : i = i0 := Classical.byContradiction fun h => huq i ((scanF tx src).1[i]'hil) h (List.getElem?_eq_getElem hil) (by omega)
      have haee : ((scanF tx src).1[i]'hil).at_ + ((scanF tx src).1[i]'hil).len = (e0 : Int) := by subst hii; rw [hi0e]; exact hae0
      have hrg := hallT i hil
      refine o_rd (r_addE (a := ((scanF tx src).1[i]'hil).at_) (b := ((scanF tx src).1[i]'hil).len) (c := ((e0 : Nat) : Int)) tE tE (by omega) (by omega) (by omega)) rfl rfl ?_
      refine o_as ?_
      refine o_nil ?_
      refine w_region ?_
      refine o_rd (r_addE (a := ((i : Nat) : Int)) (b := 1) (c := ((i + 1 : Nat) : Int)) tE tE (by omega) (by omega) (by omega)) rfl rfl ?_
      refine o_mv ?_
      refine o_nil ?_
      exact ⟨m - 1, (by omega), _, H14, i + 1, e0, rfl, tV, tV, tV, tV, tV, tV, tV, tV, tV, tV, tV, W14, E14, A4, A7, (by omega), (by omega), ((Ext.put W5 (hET.trans X13) (by have := hET.n; omega) K14 n14 W14))⟩
     ·have hc15 := dec_f hB15
      refine w_skip ?_
      refine w_region ?_
      refine o_rd (r_addE (a := ((i : Nat) : Int)) (b := 1) (c := ((i + 1 : Nat) : Int)) tE tE (by omega) (by omega) (by omega)) rfl rfl ?_
      refine o_mv ?_
      refine o_nil ?_
      have hni : i ≠ i0 := by rintro rfl; rw [hi0e] at hc15; omega
      exact ⟨m - 1, (by omega), _, H14, i + 1, en, rfl, tV, tV, tV, tV, tV, tV, tV, tV, tV, tV, tV, W14, E14, A4, A7, (by omega), (by omega), ((Ext.put W5 (hET.trans X13) (by have := hET.n; omega) K14 n14 W14))⟩
    ·have hc12 := dec_f hB12
     first | refine w_exit (blk_exit ?_) | refine w_exit (show (0 = 0 → _) ∧ (0 ≠ 0 → _) from ⟨fun _ => ?_, fun c => absurd rfl c⟩)
     refine w_seq ?_
     refine w_sr ?_
     refine o_mv ?_
     refine o_rd (r_eq (a := ((en : Nat) : Int)) (b := 0) tE tE) rfl rfl ?_
     refine o_mv ?_
     cases hg16 : (decide (((en : Nat) : Int) = 0) : Bool)
     ·have hg16 := dec_f hg16
      refine o_rd (r_move tE) rfl ((wanted_of (b := false) rfl rfl rfl tV).trans rfl) ?_
      refine o_rd (r_move tE) rfl ((wanted_of (b := false) rfl rfl rfl tV).trans rfl) ?_
      refine o_rd (r_len (n := src.length) Try.underlying22 tE hS.lenOf) rfl ((wanted_of (b := false) rfl rfl rfl tV).trans rfl) ?_
      refine o_rd (r_gt (a := ((en : Nat) : Int)) (b := ((src.length : Nat) : Int)) tE tE) rfl ((wanted_of (b := false) rfl rfl rfl tV).trans rfl) ?_
      refine o_rd (r_pick (t := false) tE (fun h => by cases h) (fun _ => tE)) rfl rfl ?_
      refine o_nil ?_
      refine w_cond tE (fun hB17 => ?_) (fun hB17 => ?_)
      ·have hc17 := dec_t hB17
       refine w_sr ?_
       refine o_as ?_
       refine o_nil ?_
       refine w_ret ⟨.inr rfl, rfl, .bool (false), (show resultA Try.prog [.tmp 4] _ = _ by simp only [resultA, resultsA, envOf, val_set, ↓reduceIte, Nat.reduceEqDiff, Option.map_some, vt0, vt1, vt4, vt5, vt6, vt7, vt8, vt9, vt46, vt47, vt48] <;> rfl), ?_⟩
       try dsimp only
       refine ⟨congrArg AV.bool ?_, E11⟩; first | rfl | (exfalso; omega) | (exfalso; obtain ⟨q1, q2⟩ := hlong (by omega); simp [q1, q2, show (parseF tx src 65536).2.2 = 30 by omega] at hc17) | (rcases hshort with q | ⟨q1, q2⟩; exfalso; omega; exfalso; omega) | (rcases hshort with q | ⟨q1, q2⟩ <;> first | (exfalso; omega) | exact decide_eq_true (by omega) | omega)
      ·have hc17 := dec_f hB17
       refine w_skip ?_
       refine w_sr ?_
       refine o_mv ?_
       refine o_mv ?_
       have hee : en = e0 := by omega
       subst hee
       obtain ⟨locS, offS, capS, rfl, hrS, hcS, hcutS⟩ := hS.open_ (by omega)
       refine o_rd (r_sliceTo (j := en) Try.underlying22 Ty.csz5 tE tE (by omega) (cutOk_ext E11 hcutS)) rfl rfl ?_
       have hS2 := hS.to_ (j := en) (by omega)
       have htl : (src.take en).length = en := by simp; omega
       have WQ := W11; have EQ := E11; have XQ0 := Ext.refl W11
       have aq18 := A4
       have aq19 := A7
       refine o_apB WQ W11 XQ0 Try.underlying22 Try.underlying22 rfl Ty.csz5 Ty.byt5 Ty.zero5 rfl tE tE ((GB.nil (n := H11.n)) : GB H11 _ _ 5 ([]) _) (m := src.take en) (sb_src (hS2.ext E11)) (room1 (by simp only [List.length_nil, htl]; omega)) rfl rfl ?_; intro so20 H20 HG20 W20 XQ20 nn20 F20
       have E20 := EQ.trans XQ20
       have A4 := XQ20.keep _ _ aq18
       have A7 := XQ20.keep _ _ aq19
       rw [List.nil_append] at HG20
       refine o_nw W20 (a_build1 Try.underlying22 Ty.csz5 Ty.zero5 rfl tE rfl (by decide)) rfl rfl rfl (by simp) ?_; intro H21 n21 W21 X21 A21
       have E21 := E20.trans X21; have XQ21 := XQ20.trans X21
       refine o_apB WQ W21 XQ21 Try.underlying22 Try.underlying22 rfl Ty.csz5 Ty.byt5 Ty.zero5 rfl tE tE ((HG20.ext X21) : GB H11 _ _ 5 (src.take en) _) (m := [32]) (src_fresh (n := 1) A21 rfl) (room1 (by simp only [htl, List.length_singleton]; omega)) rfl rfl ?_; intro so22 H22 HG22 W22 XQ22 nn22 F22
       have E22 := EQ.trans XQ22
       have A4 := XQ22.keep _ _ aq18
       have A7 := XQ22.keep _ _ aq19
       refine o_as ?_
       refine o_nil ?_
       refine w_sr ?_
       refine o_mv ?_
       refine o_mv ?_
       refine o_apB WQ W22 XQ22 Try.underlying22 Try.underlying22 rfl Ty.csz5 Ty.byt5 Ty.zero5 rfl tE tE (HG22 : GB H11 _ _ 5 (src.take en ++ [32]) _) (m := behind) (sb_src (hB.ext E22)) (room1 (by simp only [List.length_append, htl, List.length_singleton]; omega)) rfl rfl ?_; intro so23 H23 HG23 W23 XQ23 nn23 F23
       have E23 := EQ.trans XQ23
       have A4 := XQ23.keep _ _ aq18
       have A7 := XQ23.keep _ _ aq19
       rw [List.append_assoc, List.singleton_append] at HG23
       have hLL : (src.take en ++ 32 :: behind).length ≤ 4611686018427387904 := by simp only [List.length_append, htl, List.length_cons]; omega
       have hSL := HG23.sb hLL
       refine o_as ?_
       refine o_nil ?_
       refine w_sr ?_
       refine o_mv ?_
       refine o_cl rfl rfl tS rfl (parse_fin ho W23 ho81 tx ho69 htr (src.take en ++ 32 :: behind) _ (hSL) 65536 (fun h => parse_ok h)) rfl rfl ?_; rintro _ H24 ⟨s24, rfl, hNS24, X24⟩
       have W24 := X24.wf; have E24 := E23.trans X24
       have A4 := X24.keep _ _ A4
       have A7 := X24.keep _ _ A7
       have n24 := X24.n
       refine o_mv ?_
       refine o_rd (r_extract tE rfl) rfl rfl ?_
       refine o_rd (r_extract tE rfl) rfl rfl ?_
       refine o_nw W24 (a_alloc Ty.zero34) rfl rfl rfl (by simp) ?_; intro H25 n25 W25 X25 A25
       have A25 : H25.at H24.n = some (.row [.int .i64 (0), .int .i64 (0)] 34 false none) := A25
       have E25 := E24.trans X25
       have g25 : H0.n ≤ H24.n := E24.n
       have A4 := X25.keep _ _ A4
       have A7 := X25.keep _ _ A7
       refine o_as ?_
       refine o_st W25 tE tE A25 Ty.csz34 rfl (Nat.le_of_ble_eq_true rfl) (by rfl) rfl rfl ?_; intro H26 n26 W26 A26 K26
       have A26 : H26.at H24.n = some (.row [.int .i64 ((parseF tx (src.take en ++ 32 :: behind) 65536).2.1), .int .i64 ((parseF tx (src.take en ++ 32 :: behind) 65536).2.2)] 34 false none) := A26
       have E26 := Ext.put W0 E25 (by have := E25.n; omega) K26 n26 W26
       have A4 := K26.own A4 (by omega)
       have A7 := K26.own A7 (by omega)
       refine o_nil ?_
       refine w_seq ?_
       refine w_sr ?_
       refine o_mv ?_
       refine o_cl rfl rfl tS rfl (scan_fin ho W26 ho81 tx ho69 (src.take en ++ 32 :: behind) _ (hSL.ext (Ext.put W23 (X24.trans X25) (by omega) K26 n26 W26))) rfl rfl ?_; rintro _ H27 ⟨tv27, rfl, hTS27, X27⟩
       have W27 := X27.wf; have E27 := E26.trans X27
       have A4 := X27.keep _ _ A4
       have A7 := X27.keep _ _ A7
       have A26 := X27.keep _ _ A26
       have n27 := X27.n
       refine o_mv ?_
       refine o_rd (r_extract tE rfl) rfl rfl ?_
       refine o_rd (r_extract tE rfl) rfl rfl ?_
       refine o_nw W27 (a_alloc Ty.zero34) rfl rfl rfl (by simp) ?_; intro H28 n28 W28 X28 A28
       have A28 : H28.at H27.n = some (.row [.int .i64 (0), .int .i64 (0)] 34 false none) := A28
       have E28 := E27.trans X28
       have g28 : H0.n ≤ H27.n := E27.n
       have A4 := X28.keep _ _ A4
       have A7 := X28.keep _ _ A7
       have A26 := X28.keep _ _ A26
       refine o_as ?_
       refine o_st W28 tE tE A28 Ty.csz34 rfl (Nat.le_of_ble_eq_true rfl) (by rfl) rfl rfl ?_; intro H29 n29 W29 A29 K29
       have A29 : H29.at H27.n = some (.row [.int .i64 ((scanF tx (src.take en ++ 32 :: behind)).2.1), .int .i64 ((scanF tx (src.take en ++ 32 :: behind)).2.2)] 34 false none) := A29
       have E29 := Ext.put W0 E28 (by have := E28.n; omega) K29 n29 W29
       have A4 := K29.own A4 (by omega)
       have A7 := K29.own A7 (by omega)
       have A26 := K29.own A26 (by omega)
       refine o_nil ?_
       refine w_sr ?_
       refine o_rd (r_fieldAddr Ty.fo34_1 tE) rfl rfl ?_
       refine o_rd (r_load1 (v := .int .i64 ((scanF tx (src.take en ++ 32 :: behind)).2.2)) Ty.agg32 tE (read_mt A29 (Nat.le_of_ble_eq_true rfl))) rfl rfl ?_
       refine o_rd (r_eq (a := (scanF tx (src.take en ++ 32 :: behind)).2.2) (b := 0) tE tE) rfl rfl ?_
       refine o_mv ?_
       cases hg30 : (decide ((scanF tx (src.take en ++ 32 :: behind)).2.2 = 0) : Bool)
       ·have hg30 := dec_f hg30
        refine o_sk rfl ((wanted_of (b := false) rfl rfl rfl tV).trans rfl) ?_
        refine o_sk rfl ((wanted_of (b := false) rfl rfl rfl tV).trans rfl) ?_
        refine o_sk rfl ((wanted_of (b := false) rfl rfl rfl tV).trans rfl) ?_
        refine o_rd (r_pick (t := false) tE (fun h => by cases h) (fun _ => tE)) rfl rfl ?_
        refine o_nil ?_
        refine w_cond (t := false) tE (fun h => by cases h) (fun _ => ?_)
        refine w_skip ?_
        refine w_sr ?_
        refine o_mv ?_
        refine o_rd (r_fieldAddr Ty.fo34_0 tE) rfl rfl ?_
        refine o_rd (r_load1 (v := .int .i64 ((parseF tx src 65536).2.1)) Ty.agg3 tE (read_mt A4 (Nat.le_of_ble_eq_true rfl))) rfl rfl ?_
        have hFj : (parseF tx src 65536).2.1 = ((t0.at_.toNat : Nat) : Int) := by omega
        have hS3 := hS.to_ (j := t0.at_.toNat) (by omega)
        refine o_rd (r_sliceTo (j := t0.at_.toNat) Try.underlying22 Ty.csz5 tE ((show _ = some (AV.int .i64 (parseF tx src 65536).2.1) from tE).trans (congrArg (fun z => some (AV.int .i64 z)) hFj)) (by omega) (cutOk_ext E29 hcutS)) rfl rfl ?_
        refine o_cl rfl rfl tS rfl (parse_fin ho W29 ho81 tx ho69 htr (src.take t0.at_.toNat) _ (hS3.ext E29) 65536 (fun h => parse_ok h)) rfl rfl ?_; rintro _ H31 ⟨s31, rfl, hNS31, X31⟩
        have W31 := X31.wf; have E31 := E29.trans X31
        have A4 := X31.keep _ _ A4
        have A7 := X31.keep _ _ A7
        have A26 := X31.keep _ _ A26
        have A29 := X31.keep _ _ A29
        have n31 := X31.n
        refine o_mv ?_
        refine o_rd (r_extract tE rfl) rfl rfl ?_
        refine o_rd (r_extract tE rfl) rfl rfl ?_
        refine o_nw W31 (a_alloc Ty.zero34) rfl rfl rfl (by simp) ?_; intro H32 n32 W32 X32 A32
        have A32 : H32.at H31.n = some (.row [.int .i64 (0), .int .i64 (0)] 34 false none) := A32
        have E32 := E31.trans X32
        have g32 : H0.n ≤ H31.n := E31.n
        have A4 := X32.keep _ _ A4
        have A7 := X32.keep _ _ A7
        have A26 := X32.keep _ _ A26
        have A29 := X32.keep _ _ A29
        refine o_as ?_
        refine o_st W32 tE tE A32 Ty.csz34 rfl (Nat.le_of_ble_eq_true rfl) (by rfl) rfl rfl ?_; intro H33 n33 W33 A33 K33
        have A33 : H33.at H31.n = some (.row [.int .i64 ((parseF tx (src.take t0.at_.toNat) 65536).2.1), .int .i64 ((parseF tx (src.take t0.at_.toNat) 65536).2.2)] 34 false none) := A33
        have E33 := Ext.put W0 E32 (by have := E32.n; omega) K33 n33 W33
        have A4 := K33.own A4 (by omega)
        have A7 := K33.own A7 (by omega)
        have A26 := K33.own A26 (by omega)
        have A29 := K33.own A29 (by omega)
        refine o_nil ?_
        refine w_sr ?_
        refine o_rd (r_fieldAddr Ty.fo34_1 tE) rfl rfl ?_
        refine o_rd (r_load1 (v := .int .i64 ((parseF tx (src.take t0.at_.toNat) 65536).2.2)) Ty.agg32 tE (read_mt A33 (Nat.le_of_ble_eq_true rfl))) rfl rfl ?_
        refine o_rd (r_eq (a := (parseF tx (src.take t0.at_.toNat) 65536).2.2) (b := 0) tE tE) rfl rfl ?_
        refine o_mv ?_
        cases hg34 : (decide ((parseF tx (src.take t0.at_.toNat) 65536).2.2 = 0) : Bool)
        ·have hg34 := dec_f hg34
         refine o_rd (r_fieldAddr Ty.fo34_1 tE) rfl ((wanted_of (b := false) rfl rfl rfl tV).trans rfl) ?_
         refine o_rd (r_load1 (v := .int .i64 ((parseF tx (src.take t0.at_.toNat) 65536).2.2)) Ty.agg32 tE (read_mt A33 (Nat.le_of_ble_eq_true rfl))) rfl ((wanted_of (b := false) rfl rfl rfl tV).trans rfl) ?_
         refine o_rd (r_eq (a := (parseF tx (src.take t0.at_.toNat) 65536).2.2) (b := 30) tE tE) rfl ((wanted_of (b := false) rfl rfl rfl tV).trans rfl) ?_
         refine o_rd (r_move tE) rfl ((wanted_of (b := false) rfl rfl rfl tV).trans rfl) ?_
         cases hg35 : (decide ((parseF tx (src.take t0.at_.toNat) 65536).2.2 = 30) : Bool)
         ·have hg35 := dec_f hg35
          refine o_sk rfl ((wanted_of (b := false) rfl rfl rfl tV).trans rfl) ?_
          refine o_sk rfl ((wanted_of (b := false) rfl rfl rfl tV).trans rfl) ?_
          refine o_sk rfl ((wanted_of (b := false) rfl rfl rfl tV).trans rfl) ?_
          refine o_sk rfl ((wanted_of (b := false) rfl rfl rfl tV).trans rfl) ?_
          refine o_sk rfl ((wanted_of (b := false) rfl rfl rfl tV).trans rfl) ?_
          refine o_rd (r_pick (t := false) tE (fun h => by cases h) (fun _ => tE)) rfl ((wanted_of (b := false) rfl rfl rfl tV).trans rfl) ?_
          refine o_rd (r_pick (t := false) tE (fun h => by cases h) (fun _ => tE)) rfl rfl ?_
          refine o_as ?_
          refine o_nil ?_
          refine w_ret ⟨.inr rfl, rfl, .bool (false), (show resultA Try.prog [.tmp 4] _ = _ by simp only [resultA, resultsA, envOf, val_set, ↓reduceIte, Nat.reduceEqDiff, Option.map_some, vt0, vt1, vt4, vt5, vt6, vt7, vt8, vt9, vt46, vt47, vt48] <;> rfl), ?_⟩
          try dsimp only
          refine ⟨congrArg AV.bool ?_, E33⟩; first | rfl | (exfalso; omega) | (exfalso; obtain ⟨q1, q2⟩ := hlong (by omega); simp [q1, q2, show (parseF tx src 65536).2.2 = 30 by omega] at hg35) | (rcases hshort with q | ⟨q1, q2⟩; exfalso; omega; exfalso; omega) | (rcases hshort with q | ⟨q1, q2⟩ <;> first | (exfalso; omega) | exact decide_eq_true (by omega) | omega)
         ·have hg35 := dec_t hg35
          refine o_rd (r_fieldAddr Ty.fo34_0 tE) rfl ((wanted_of (b := true) rfl rfl rfl tV).trans rfl) ?_
          refine o_rd (r_load1 (v := .int .i64 ((parseF tx (src.take t0.at_.toNat) 65536).2.1)) Ty.agg3 tE (read_mt A33 (Nat.le_of_ble_eq_true rfl))) rfl ((wanted_of (b := true) rfl rfl rfl tV).trans rfl) ?_
          refine o_rd (r_fieldAddr Ty.fo34_0 tE) rfl ((wanted_of (b := true) rfl rfl rfl tV).trans rfl) ?_
          refine o_rd (r_load1 (v := .int .i64 ((parseF tx src 65536).2.1)) Ty.agg3 tE (read_mt A4 (Nat.le_of_ble_eq_true rfl))) rfl ((wanted_of (b := true) rfl rfl rfl tV).trans rfl) ?_
          refine o_rd (r_eq (a := (parseF tx (src.take t0.at_.toNat) 65536).2.1) (b := (parseF tx src 65536).2.1) tE tE) rfl ((wanted_of (b := true) rfl rfl rfl tV).trans rfl) ?_
          refine o_rd (r_pick (t := true) tE (fun _ => tE) (fun h => by cases h)) rfl ((wanted_of (b := false) rfl rfl rfl tV).trans rfl) ?_
          refine o_rd (r_pick (t := false) tE (fun h => by cases h) (fun _ => tE)) rfl rfl ?_
          refine o_as ?_
          refine o_nil ?_
          refine w_ret ⟨.inr rfl, rfl, .bool (decide ((parseF tx (src.take t0.at_.toNat) 65536).2.1 = (parseF tx src 65536).2.1)), (show resultA Try.prog [.tmp 4] _ = _ by simp only [resultA, resultsA, envOf, val_set, ↓reduceIte, Nat.reduceEqDiff, Option.map_some, vt0, vt1, vt4, vt5, vt6, vt7, vt8, vt9, vt46, vt47, vt48] <;> rfl), ?_⟩
          try dsimp only
          refine ⟨congrArg AV.bool ?_, E33⟩; first | rfl | (exfalso; omega) | (exfalso; obtain ⟨q1, q2⟩ := hlong (by omega); simp [q1, q2, show (parseF tx src 65536).2.2 = 30 by omega] at hg35) | (rcases hshort with q | ⟨q1, q2⟩; exfalso; omega; exfalso; omega) | (rcases hshort with q | ⟨q1, q2⟩ <;> first | (exfalso; omega) | exact decide_eq_true (by omega) | omega)
        ·have hg34 := dec_t hg34
         refine o_sk rfl ((wanted_of (b := true) rfl rfl rfl tV).trans rfl) ?_
         refine o_sk rfl ((wanted_of (b := true) rfl rfl rfl tV).trans rfl) ?_
         refine o_sk rfl ((wanted_of (b := true) rfl rfl rfl tV).trans rfl) ?_
         refine o_sk rfl ((wanted_of (b := true) rfl rfl rfl tV).trans rfl) ?_
         refine o_sk rfl (wanted_no rfl rfl rfl tV) ?_
         refine o_sk rfl (wanted_no rfl rfl rfl tV) ?_
         refine o_sk rfl (wanted_no rfl rfl rfl tV) ?_
         refine o_sk rfl (wanted_no rfl rfl rfl tV) ?_
         refine o_sk rfl (wanted_no rfl rfl rfl tV) ?_
         refine o_sk rfl ((wanted_of (b := true) rfl rfl rfl tV).trans rfl) ?_
         refine o_rd (r_pick (t := true) tE (fun _ => tE) (fun h => by cases h)) rfl rfl ?_
         refine o_as ?_
         refine o_nil ?_
         refine w_ret ⟨.inr rfl, rfl, .bool (true), (show resultA Try.prog [.tmp 4] _ = _ by simp only [resultA, resultsA, envOf, val_set, ↓reduceIte, Nat.reduceEqDiff, Option.map_some, vt0, vt1, vt4, vt5, vt6, vt7, vt8, vt9, vt46, vt47, vt48] <;> rfl), ?_⟩
         try dsimp only
         refine ⟨congrArg AV.bool ?_, E33⟩; first | rfl | (exfalso; omega) | (exfalso; obtain ⟨q1, q2⟩ := hlong (by omega); simp [q1, q2, show (parseF tx src 65536).2.2 = 30 by omega] at hg34) | (rcases hshort with q | ⟨q1, q2⟩; exfalso; omega; exfalso; omega) | (rcases hshort with q | ⟨q1, q2⟩ <;> first | (exfalso; omega) | exact decide_eq_true (by omega) | omega)
       ·have hg30 := dec_t hg30
        refine o_rd (r_loadN (cs := [.int .i64 ((parseF tx (src.take en ++ 32 :: behind) 65536).2.1), .int .i64 ((parseF tx (src.take en ++ 32 :: behind) 65536).2.2)]) Ty.agg34 Ty.csz34 tE (read_mt A26 (Nat.le_of_ble_eq_true rfl))) rfl ((wanted_of (b := true) rfl rfl rfl tV).trans rfl) ?_
        refine o_rd (r_loadN (cs := [.int .i64 ((parseF tx src 65536).2.1), .int .i64 ((parseF tx src 65536).2.2)]) Ty.agg34 Ty.csz34 tE (read_mt A4 (Nat.le_of_ble_eq_true rfl))) rfl ((wanted_of (b := true) rfl rfl rfl tV).trans rfl) ?_
        refine o_rd (r_ne34 tE tE) rfl ((wanted_of (b := true) rfl rfl rfl tV).trans rfl) ?_
        refine o_rd (r_pick (t := true) tE (fun _ => tE) (fun h => by cases h)) rfl rfl ?_
        refine o_nil ?_
        refine w_cond tE (fun hB36 => ?_) (fun hB36 => ?_)
        ·have hc36 := (not_t hB36)
         refine w_sr ?_
         refine o_as ?_
         refine o_nil ?_
         refine w_ret ⟨.inr rfl, rfl, .bool (false), (show resultA Try.prog [.tmp 4] _ = _ by simp only [resultA, resultsA, envOf, val_set, ↓reduceIte, Nat.reduceEqDiff, Option.map_some, vt0, vt1, vt4, vt5, vt6, vt7, vt8, vt9, vt46, vt47, vt48] <;> rfl), ?_⟩
         try dsimp only
         refine ⟨congrArg AV.bool ?_, E29⟩; first | rfl | (exfalso; omega) | (exfalso; obtain ⟨q1, q2⟩ := hlong (by omega); simp [q1, q2, show (parseF tx src 65536).2.2 = 30 by omega] at hc36) | (rcases hshort with q | ⟨q1, q2⟩; exfalso; omega; exfalso; omega) | (rcases hshort with q | ⟨q1, q2⟩ <;> first | (exfalso; omega) | exact decide_eq_true (by omega) | omega)
        ·have hc36 := (not_f hB36)
         refine w_skip ?_
         refine w_sr ?_
         refine o_mv ?_
         refine o_rd (r_fieldAddr Ty.fo34_0 tE) rfl rfl ?_
         refine o_rd (r_load1 (v := .int .i64 ((parseF tx src 65536).2.1)) Ty.agg3 tE (read_mt A4 (Nat.le_of_ble_eq_true rfl))) rfl rfl ?_
         have hFj : (parseF tx src 65536).2.1 = ((t0.at_.toNat : Nat) : Int) := by omega
         have hS3 := hS.to_ (j := t0.at_.toNat) (by omega)
         refine o_rd (r_sliceTo (j := t0.at_.toNat) Try.underlying22 Ty.csz5 tE ((show _ = some (AV.int .i64 (parseF tx src 65536).2.1) from tE).trans (congrArg (fun z => some (AV.int .i64 z)) hFj)) (by omega) (cutOk_ext E29 hcutS)) rfl rfl ?_
         refine o_cl rfl rfl tS rfl (parse_fin ho W29 ho81 tx ho69 htr (src.take t0.at_.toNat) _ (hS3.ext E29) 65536 (fun h => parse_ok h)) rfl rfl ?_; rintro _ H37 ⟨s37, rfl, hNS37, X37⟩
         have W37 := X37.wf; have E37 := E29.trans X37
         have A4 := X37.keep _ _ A4
         have A7 := X37.keep _ _ A7
         have A26 := X37.keep _ _ A26
         have A29 := X37.keep _ _ A29
         have n37 := X37.n
         refine o_mv ?_
         refine o_rd (r_extract tE rfl) rfl rfl ?_
         refine o_rd (r_extract tE rfl) rfl rfl ?_
         refine o_nw W37 (a_alloc Ty.zero34) rfl rfl rfl (by simp) ?_; intro H38 n38 W38 X38 A38
         have A38 : H38.at H37.n = some (.row [.int .i64 (0), .int .i64 (0)] 34 false none) := A38
         have E38 := E37.trans X38
         have g38 : H0.n ≤ H37.n := E37.n
         have A4 := X38.keep _ _ A4
         have A7 := X38.keep _ _ A7
         have A26 := X38.keep _ _ A26
         have A29 := X38.keep _ _ A29
         refine o_as ?_
         refine o_st W38 tE tE A38 Ty.csz34 rfl (Nat.le_of_ble_eq_true rfl) (by rfl) rfl rfl ?_; intro H39 n39 W39 A39 K39
         have A39 : H39.at H37.n = some (.row [.int .i64 ((parseF tx (src.take t0.at_.toNat) 65536).2.1), .int .i64 ((parseF tx (src.take t0.at_.toNat) 65536).2.2)] 34 false none) := A39
         have E39 := Ext.put W0 E38 (by have := E38.n; omega) K39 n39 W39
         have A4 := K39.own A4 (by omega)
         have A7 := K39.own A7 (by omega)
         have A26 := K39.own A26 (by omega)
         have A29 := K39.own A29 (by omega)
         refine o_nil ?_
         refine w_sr ?_
         refine o_rd (r_fieldAddr Ty.fo34_1 tE) rfl rfl ?_
         refine o_rd (r_load1 (v := .int .i64 ((parseF tx (src.take t0.at_.toNat) 65536).2.2)) Ty.agg32 tE (read_mt A39 (Nat.le_of_ble_eq_true rfl))) rfl rfl ?_
         refine o_rd (r_eq (a := (parseF tx (src.take t0.at_.toNat) 65536).2.2) (b := 0) tE tE) rfl rfl ?_
         refine o_mv ?_
         cases hg40 : (decide ((parseF tx (src.take t0.at_.toNat) 65536).2.2 = 0) : Bool)
         ·have hg40 := dec_f hg40
          refine o_rd (r_fieldAddr Ty.fo34_1 tE) rfl ((wanted_of (b := false) rfl rfl rfl tV).trans rfl) ?_
          refine o_rd (r_load1 (v := .int .i64 ((parseF tx (src.take t0.at_.toNat) 65536).2.2)) Ty.agg32 tE (read_mt A39 (Nat.le_of_ble_eq_true rfl))) rfl ((wanted_of (b := false) rfl rfl rfl tV).trans rfl) ?_
          refine o_rd (r_eq (a := (parseF tx (src.take t0.at_.toNat) 65536).2.2) (b := 30) tE tE) rfl ((wanted_of (b := false) rfl rfl rfl tV).trans rfl) ?_
          refine o_rd (r_move tE) rfl ((wanted_of (b := false) rfl rfl rfl tV).trans rfl) ?_
          cases hg41 : (decide ((parseF tx (src.take t0.at_.toNat) 65536).2.2 = 30) : Bool)
          ·have hg41 := dec_f hg41
           refine o_sk rfl ((wanted_of (b := false) rfl rfl rfl tV).trans rfl) ?_
           refine o_sk rfl ((wanted_of (b := false) rfl rfl rfl tV).trans rfl) ?_
           refine o_sk rfl ((wanted_of (b := false) rfl rfl rfl tV).trans rfl) ?_
           refine o_sk rfl ((wanted_of (b := false) rfl rfl rfl tV).trans rfl) ?_
           refine o_sk rfl ((wanted_of (b := false) rfl rfl rfl tV).trans rfl) ?_
           refine o_rd (r_pick (t := false) tE (fun h => by cases h) (fun _ => tE)) rfl ((wanted_of (b := false) rfl rfl rfl tV).trans rfl) ?_
           refine o_rd (r_pick (t := false) tE (fun h => by cases h) (fun _ => tE)) rfl rfl ?_
           refine o_as ?_
           refine o_nil ?_
           refine w_ret ⟨.inr rfl, rfl, .bool (false), (show resultA Try.prog [.tmp 4] _ = _ by simp only [resultA, resultsA, envOf, val_set, ↓reduceIte, Nat.reduceEqDiff, Option.map_some, vt0, vt1, vt4, vt5, vt6, vt7, vt8, vt9, vt46, vt47, vt48] <;> rfl), ?_⟩
           try dsimp only
           refine ⟨congrArg AV.bool ?_, E39⟩; first | rfl | (exfalso; omega) | (exfalso; obtain ⟨q1, q2⟩ := hlong (by omega); simp [q1, q2, show (parseF tx src 65536).2.2 = 30 by omega] at hg41) | (rcases hshort with q | ⟨q1, q2⟩; exfalso; omega; exfalso; omega) | (rcases hshort with q | ⟨q1, q2⟩ <;> first | (exfalso; omega) | exact decide_eq_true (by omega) | omega)
          ·have hg41 := dec_t hg41
           refine o_rd (r_fieldAddr Ty.fo34_0 tE) rfl ((wanted_of (b := true) rfl rfl rfl tV).trans rfl) ?_
           refine o_rd (r_load1 (v := .int .i64 ((parseF tx (src.take t0.at_.toNat) 65536).2.1)) Ty.agg3 tE (read_mt A39 (Nat.le_of_ble_eq_true rfl))) rfl ((wanted_of (b := true) rfl rfl rfl tV).trans rfl) ?_
           refine o_rd (r_fieldAddr Ty.fo34_0 tE) rfl ((wanted_of (b := true) rfl rfl rfl tV).trans rfl) ?_
           refine o_rd (r_load1 (v := .int .i64 ((parseF tx src 65536).2.1)) Ty.agg3 tE (read_mt A4 (Nat.le_of_ble_eq_true rfl))) rfl ((wanted_of (b := true) rfl rfl rfl tV).trans rfl) ?_
           refine o_rd (r_eq (a := (parseF tx (src.take t0.at_.toNat) 65536).2.1) (b := (parseF tx src 65536).2.1) tE tE) rfl ((wanted_of (b := true) rfl rfl rfl tV).trans rfl) ?_
           refine o_rd (r_pick (t := true) tE (fun _ => tE) (fun h => by cases h)) rfl ((wanted_of (b := false) rfl rfl rfl tV).trans rfl) ?_
           refine o_rd (r_pick (t := false) tE (fun h => by cases h) (fun _ => tE)) rfl rfl ?_
           refine o_as ?_
           refine o_nil ?_
           refine w_ret ⟨.inr rfl, rfl, .bool (decide ((parseF tx (src.take t0.at_.toNat) 65536).2.1 = (parseF tx src 65536).2.1)), (show resultA Try.prog [.tmp 4] _ = _ by simp only [resultA, resultsA, envOf, val_set, ↓reduceIte, Nat.reduceEqDiff, Option.map_some, vt0, vt1, vt4, vt5, vt6, vt7, vt8, vt9, vt46, vt47, vt48] <;> rfl), ?_⟩
           try dsimp only
           refine ⟨congrArg AV.bool ?_, E39⟩; first | rfl | (exfalso; omega) | (exfalso; obtain ⟨q1, q2⟩ := hlong (by omega); simp [q1, q2, show (parseF tx src 65536).2.2 = 30 by omega] at hg41) | (rcases hshort with q | ⟨q1, q2⟩; exfalso; omega; exfalso; omega) | (rcases hshort with q | ⟨q1, q2⟩ <;> first | (exfalso; omega) | exact decide_eq_true (by omega) | omega)
         ·have hg40 := dec_t hg40
          refine o_sk rfl ((wanted_of (b := true) rfl rfl rfl tV).trans rfl) ?_
          refine o_sk rfl ((wanted_of (b := true) rfl rfl rfl tV).trans rfl) ?_
          refine o_sk rfl ((wanted_of (b := true) rfl rfl rfl tV).trans rfl) ?_
          refine o_sk rfl ((wanted_of (b := true) rfl rfl rfl tV).trans rfl) ?_
          refine o_sk rfl (wanted_no rfl rfl rfl tV) ?_
          refine o_sk rfl (wanted_no rfl rfl rfl tV) ?_
          refine o_sk rfl (wanted_no rfl rfl rfl tV) ?_
          refine o_sk rfl (wanted_no rfl rfl rfl tV) ?_
          refine o_sk rfl (wanted_no rfl rfl rfl tV) ?_
          refine o_sk rfl ((wanted_of (b := true) rfl rfl rfl tV).trans rfl) ?_
          refine o_rd (r_pick (t := true) tE (fun _ => tE) (fun h => by cases h)) rfl rfl ?_
          refine o_as ?_
          refine o_nil ?_
          refine w_ret ⟨.inr rfl, rfl, .bool (true), (show resultA Try.prog [.tmp 4] _ = _ by simp only [resultA, resultsA, envOf, val_set, ↓reduceIte, Nat.reduceEqDiff, Option.map_some, vt0, vt1, vt4, vt5, vt6, vt7, vt8, vt9, vt46, vt47, vt48] <;> rfl), ?_⟩
          try dsimp only
          refine ⟨congrArg AV.bool ?_, E39⟩; first | rfl | (exfalso; omega) | (exfalso; obtain ⟨q1, q2⟩ := hlong (by omega); simp [q1, q2, show (parseF tx src 65536).2.2 = 30 by omega] at hg40) | (rcases hshort with q | ⟨q1, q2⟩; exfalso; omega; exfalso; omega) | (rcases hshort with q | ⟨q1, q2⟩ <;> first | (exfalso; omega) | exact decide_eq_true (by omega) | omega)
     ·have hg16 := dec_t hg16
      refine o_sk rfl ((wanted_of (b := true) rfl rfl rfl tV).trans rfl) ?_
      refine o_sk rfl ((wanted_of (b := true) rfl rfl rfl tV).trans rfl) ?_
      refine o_sk rfl ((wanted_of (b := true) rfl rfl rfl tV).trans rfl) ?_
      refine o_sk rfl ((wanted_of (b := true) rfl rfl rfl tV).trans rfl) ?_
      refine o_rd (r_pick (t := true) tE (fun _ => tE) (fun h => by cases h)) rfl rfl ?_
      refine o_nil ?_
      refine w_cond (t := true) tE (fun _ => ?_) (fun h => by cases h)
      refine w_sr ?_
      refine o_as ?_
      refine o_nil ?_
      refine w_ret ⟨.inr rfl, rfl, .bool (false), (show resultA Try.prog [.tmp 4] _ = _ by simp only [resultA, resultsA, envOf, val_set, ↓reduceIte, Nat.reduceEqDiff, Option.map_some, vt0, vt1, vt4, vt5, vt6, vt7, vt8, vt9, vt46, vt47, vt48] <;> rfl), ?_⟩
      try dsimp only
      refine ⟨congrArg AV.bool ?_, E11⟩; first | rfl | (exfalso; omega) | (exfalso; obtain ⟨q1, q2⟩ := hlong (by omega); simp [q1, q2, show (parseF tx src 65536).2.2 = 30 by omega] at hg16) | (rcases hshort with q | ⟨q1, q2⟩; exfalso; omega; exfalso; omega) | (rcases hshort with q | ⟨q1, q2⟩ <;> first | (exfalso; omega) | exact decide_eq_true (by omega) | omega)
  ·have hg9 := dec_t hg9
   refine o_sk rfl ((wanted_of (b := true) rfl rfl rfl tV).trans rfl) ?_
   refine o_sk rfl ((wanted_of (b := true) rfl rfl rfl tV).trans rfl) ?_
   refine o_sk rfl ((wanted_of (b := true) rfl rfl rfl tV).trans rfl) ?_
   refine o_rd (r_pick (t := true) tE (fun _ => tE) (fun h => by cases h)) rfl rfl ?_
   refine o_nil ?_
   refine w_cond (t := true) tE (fun _ => ?_) (fun h => by cases h)
   refine w_sr ?_
   refine o_as ?_
   refine o_nil ?_
   refine w_ret ⟨.inr rfl, rfl, .bool (true), (show resultA Try.prog [.tmp 4] _ = _ by simp only [resultA, resultsA, envOf, val_set, ↓reduceIte, Nat.reduceEqDiff, Option.map_some] <;> rfl), ?_⟩
   try dsimp only
   refine ⟨congrArg AV.bool ?_, E7⟩; first | rfl | (exfalso; omega) | (exfalso; obtain ⟨q1, q2⟩ := hlong (by omega); simp [q1, q2, show (parseF tx src 65536).2.2 = 30 by omega] at hg9) | (rcases hshort with q | ⟨q1, q2⟩; exfalso; omega; exfalso; omega) | (rcases hshort with q | ⟨q1, q2⟩ <;> first | (exfalso; omega) | exact decide_eq_true (by omega) | omega)
 ·have hg8 := dec_t hg8
  refine o_sk rfl ((wanted_of (b := true) rfl rfl rfl tV).trans rfl) ?_
  refine o_sk rfl ((wanted_of (b := true) rfl rfl rfl tV).trans rfl) ?_
  refine o_sk rfl ((wanted_of (b := true) rfl rfl rfl tV).trans rfl) ?_
  refine o_sk rfl ((wanted_of (b := true) rfl rfl rfl tV).trans rfl) ?_
  refine o_sk rfl ((wanted_of (b := true) rfl rfl rfl tV).trans rfl) ?_
  refine o_rd (r_pick (t := true) tE (fun _ => tE) (fun h => by cases h)) rfl rfl ?_
  refine o_mv ?_
  refine o_sk rfl ((wanted_of (b := true) rfl rfl rfl tV).trans rfl) ?_
  refine o_sk rfl ((wanted_of (b := true) rfl rfl rfl tV).trans rfl) ?_
  refine o_sk rfl ((wanted_of (b := true) rfl rfl rfl tV).trans rfl) ?_
  refine o_rd (r_pick (t := true) tE (fun _ => tE) (fun h => by cases h)) rfl rfl ?_
  refine o_nil ?_
  refine w_cond (t := true) tE (fun _ => ?_) (fun h => by cases h)
  refine w_sr ?_
  refine o_as ?_
  refine o_nil ?_
  refine w_ret ⟨.inr rfl, rfl, .bool (true), (show resultA Try.prog [.tmp 4] _ = _ by simp only [resultA, resultsA, envOf, val_set, ↓reduceIte, Nat.reduceEqDiff, Option.map_some] <;> rfl), ?_⟩
  try dsimp only
  refine ⟨congrArg AV.bool ?_, E7⟩; first | rfl | (exfalso; omega) | (exfalso; obtain ⟨q1, q2⟩ := hlong (by omega); simp [q1, q2, show (parseF tx src 65536).2.2 = 30 by omega] at hg8) | (rcases hshort with q | ⟨q1, q2⟩; exfalso; omega; exfalso; omega) | (rcases hshort with q | ⟨q1, q2⟩ <;> first | (exfalso; omega) | exact decide_eq_true (by omega) | omega)
end Go.Proofs.Ytehmhhlhlipbnaa.Vs
