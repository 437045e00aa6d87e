/-
 Operators.
-/
import Derived.Test.YtehmhhlhlipbnaaParse6
set_option autoImplicit false
set_option linter.unusedVariables false
set_option linter.unusedSimpArgs false
set_option maxRecDepth 100000
set_option maxHeartbeats 4000000
namespace Go.Proofs.Ytehmhhlhlipbnaa.Vs
open Go.VI Go.Proofs
variable {orc : CallF}
/-- the cells of a line of signs -/
def sgC (l : List (List UInt8 × Int)) : List AV := l.flatMap fun p => [.str p.1, .int .i64 p.2]
theorem sgC_drop : ∀ (l : List (List UInt8 × Int)) (i : Nat), (sgC l).drop (i * 2) = sgC (l.drop i)
 | l, 0 => rfl
 | [], i + 1 => by simp [sgC]
 | p :: l, i + 1 => by
  have h := sgC_drop l i
  rw [show (i + 1) * 2 = i * 2 + 2 by omega, List.drop_succ_cons, ← h]
  simp only [sgC, List.flatMap_cons, List.cons_append, List.nil_append, List.drop_succ_cons]
theorem sgC_len (l : List (List UInt8 × Int)) : (sgC l).length = l.length * 2 := by
 induction l with
 | nil => rfl
 | cons p l ih => simp only [sgC, List.flatMap_cons, List.cons_append, List.nil_append, List.length_cons] at ih ⊢; omega
theorem sg_read {H : AH} {b t i : Nat} {l : List (List UInt8 × Int)} (h : H.at b = some (.row (sgC l) t false none)) (hi : i < l.length) : H.read (.mt b) (0 + i * 2) 2 = some [.str l[i].1, .int .i64 l[i].2] := by
 rw [read_mt h (by rw [sgC_len]; omega), Nat.zero_add, sgC_drop, List.drop_eq_getElem_cons hi]
 rfl
theorem mOps_no {tx : Nat → List UInt8} {T : List TK} {l : List (List UInt8 × Int)} {i : Nat} (hi : i < l.length) {st st' : PS} (h : mGot tx T l[i].1 st = some (.ok (false, st'))) : mOps tx T (l.drop i) st = mOps tx T (l.drop (i + 1)) st' := by
 rw [List.drop_eq_getElem_cons hi]; simp [mOps, bindP, h]
theorem mOps_yes {tx : Nat → List UInt8} {T : List TK} {l : List (List UInt8 × Int)} {i : Nat} (hi : i < l.length) {st st' : PS} (h : mGot tx T l[i].1 st = some (.ok (true, st'))) : mOps tx T (l.drop i) st = some (.ok (l[i].2, st')) := by
 rw [List.drop_eq_getElem_cons hi]; simp [mOps, bindP, pureP, h]
theorem mOps_end {tx : Nat → List UInt8} {T : List TK} {l : List (List UInt8 × Int)} {i : Nat} (hi : ¬ i < l.length) {st : PS} : mOps tx T (l.drop i) st = some (.ok (0, st)) := by
 rw [List.drop_of_length_le (by omega)]; rfl
theorem lineL_le (lv : Int) : (lineL lv).length ≤ 6 := by
 unfold lineL
 repeat' split
 all_goals simp
theorem row_fr {H0 H H' : AH} {sv tv : AV} {tn rb b t : Nat} {G : LK → Prop} {st : PS} {x x' : LK} {cs : List AV} (R : RS H0 sv tv tn rb (fun z => G z ∨ z = (b, none)) H st x) (F : Fr2 rb H x H' x') (h : H.at b = some (.row cs t false none)) : H'.at b = some (.row cs t false none) :=
 have a := R.ap (y := (b, none)) (.inr rfl)
 F.keep _ _ h a.2 a.1.1 (.inl rfl)
theorem a_buildS1 {P : Program} {e : Env} {t el : TypeId} {o0 : Operand} {a0 : List UInt8} {b0 : Int} (ht : P.underlying t = some (.slice el)) (hs : csz P el = some 2) (hz : zeroOf P el = some (.agg [.str [], .int .i64 0])) (h0 : ev e o0 = some (.agg [.str a0, .int .i64 b0])) :
  allocOp P e (.buildSlice t 1 #[(0, o0)]) = some (.row (sgC [(a0, b0)]) el false none, fun b => freshSl b 1 1) := by
 simp only [allocOp, doBuildSlice, ht, evParts, h0, buildSl1, hs, hz]
 rfl
theorem a_buildS2 {P : Program} {e : Env} {t el : TypeId} {o0 : Operand} {a0 : List UInt8} {b0 : Int} {o1 : Operand} {a1 : List UInt8} {b1 : Int} (ht : P.underlying t = some (.slice el)) (hs : csz P el = some 2) (hz : zeroOf P el = some (.agg [.str [], .int .i64 0])) (h0 : ev e o0 = some (.agg [.str a0, .int .i64 b0])) (h1 : ev e o1 = some (.agg [.str a1, .int .i64 b1])) :
  allocOp P e (.buildSlice t 2 #[(0, o0), (1, o1)]) = some (.row (sgC [(a0, b0), (a1, b1)]) el false none, fun b => freshSl b 2 2) := by
 simp only [allocOp, doBuildSlice, ht, evParts, h0, h1, buildSl1, hs, hz]
 rfl
theorem a_buildS3 {P : Program} {e : Env} {t el : TypeId} {o0 : Operand} {a0 : List UInt8} {b0 : Int} {o1 : Operand} {a1 : List UInt8} {b1 : Int} {o2 : Operand} {a2 : List UInt8} {b2 : Int} (ht : P.underlying t = some (.slice el)) (hs : csz P el = some 2) (hz : zeroOf P el = some (.agg [.str [], .int .i64 0])) (h0 : ev e o0 = some (.agg [.str a0, .int .i64 b0])) (h1 : ev e o1 = some (.agg [.str a1, .int .i64 b1])) (h2 : ev e o2 = some (.agg [.str a2, .int .i64 b2])) :
  allocOp P e (.buildSlice t 3 #[(0, o0), (1, o1), (2, o2)]) = some (.row (sgC [(a0, b0), (a1, b1), (a2, b2)]) el false none, fun b => freshSl b 3 3) := by
 simp only [allocOp, doBuildSlice, ht, evParts, h0, h1, h2, buildSl1, hs, hz]
 rfl
theorem a_buildS6 {P : Program} {e : Env} {t el : TypeId} {o0 : Operand} {a0 : List UInt8} {b0 : Int} {o1 : Operand} {a1 : List UInt8} {b1 : Int} {o2 : Operand} {a2 : List UInt8} {b2 : Int} {o3 : Operand} {a3 : List UInt8} {b3 : Int} {o4 : Operand} {a4 : List UInt8} {b4 : Int} {o5 : Operand} {a5 : List UInt8} {b5 : Int} (ht : P.underlying t = some (.slice el)) (hs : csz P el = some 2) (hz : zeroOf P el = some (.agg [.str [], .int .i64 0])) (h0 : ev e o0 = some (.agg [.str a0, .int .i64 b0])) (h1 : ev e o1 = some (.agg [.str a1, .int .i64 b1])) (h2 : ev e o2 = some (.agg [.str a2, .int .i64 b2])) (h3 : ev e o3 = some (.agg [.str a3, .int .i64 b3])) (h4 : ev e o4 = some (.agg [.str a4, .int .i64 b4])) (h5 : ev e o5 = some (.agg [.str a5, .int .i64 b5])) :
  allocOp P e (.buildSlice t 6 #[(0, o0), (1, o1), (2, o2), (3, o3), (4, o4), (5, o5)]) = some (.row (sgC [(a0, b0), (a1, b1), (a2, b2), (a3, b3), (a4, b4), (a5, b5)]) el false none, fun b => freshSl b 6 6) := by
 simp only [allocOp, doBuildSlice, ht, evParts, h0, h1, h2, h3, h4, h5, buildSl1, hs, hz]
 rfl
theorem line_fin (ho : NoOrcBut [7, 21, 69, 81] orc) {H0 HS : AH} (W0 : Wf H0) (WS : Wf HS) (ES : Ext H0 HS) (lv : Int) : Fin Try.prog orc 95 [.int .i64 (lv)] HS (fun r H' => ∃ b, r = freshSl b (lineL lv).length (lineL lv).length ∧ HS.n ≤ b ∧ H'.at b = some (.row (sgC (lineL lv)) 93 false none) ∧ Ext HS H') := by
 have E0 := ES
 refine fin_of Try.func95 rfl (by rw [Try.ntmps95]; simp) (ho _ rfl _ _) ?_
 rw [Try.ntmps95]
 refine w_sr ?_
 refine o_as ?_
 refine o_nil ?_
 refine w_seq ?_
 refine w_sr ?_
 refine o_mv ?_
 refine o_nil ?_
 refine w_block ?_
 refine w_sr ?_
 refine o_rd (r_eq (a := lv) (b := 1) tE tE) rfl rfl ?_
 refine o_as ?_
 refine o_nil ?_
 refine w_cond tE (fun hB1 => ?_) (fun hB1 => ?_)
 ·have hc1 := dec_t hB1
  refine w_sr ?_
  refine o_rd (r_build (cs := [.str ([124, 124]), .int .i64 (11)]) Ty.zero93 Ty.pl93 tP rfl) rfl rfl ?_
  refine o_nw WS (a_buildS1 Try.underlying90 Ty.csz93 Ty.zero93 tE) rfl rfl rfl (by simp) ?_; intro H2 n2 W2 X2 A2
  have E2 := E0.trans X2
  refine o_as ?_
  refine o_nil ?_
  refine w_ret ⟨.inr rfl, rfl, (freshSl (HS.n) 1 1), (show resultA Try.prog [.tmp 2] _ = _ from tR), ?_⟩
  try dsimp only
  have hl : lineL lv = [([124, 124], 11)] := by simp [lineL, hc1]
  rw [hl]; exact ⟨_, rfl, Nat.le_refl _, A2, X2⟩
 ·have hc1 := dec_f hB1
  refine w_sr ?_
  refine o_rd (r_eq (a := lv) (b := 2) tE tE) rfl rfl ?_
  refine o_as ?_
  refine o_nil ?_
  refine w_cond tE (fun hB3 => ?_) (fun hB3 => ?_)
  ·have hc3 := dec_t hB3
   refine w_sr ?_
   refine o_rd (r_build (cs := [.str ([38, 38]), .int .i64 (12)]) Ty.zero93 Ty.pl93 tP rfl) rfl rfl ?_
   refine o_nw WS (a_buildS1 Try.underlying90 Ty.csz93 Ty.zero93 tE) rfl rfl rfl (by simp) ?_; intro H4 n4 W4 X4 A4
   have E4 := E0.trans X4
   refine o_as ?_
   refine o_nil ?_
   refine w_ret ⟨.inr rfl, rfl, (freshSl (HS.n) 1 1), (show resultA Try.prog [.tmp 2] _ = _ from tR), ?_⟩
   try dsimp only
   have hl : lineL lv = [([38, 38], 12)] := by simp [lineL, hc1, hc3]
   rw [hl]; exact ⟨_, rfl, Nat.le_refl _, A4, X4⟩
  ·have hc3 := dec_f hB3
   refine w_sr ?_
   refine o_rd (r_eq (a := lv) (b := 3) tE tE) rfl rfl ?_
   refine o_as ?_
   refine o_nil ?_
   refine w_cond tE (fun hB5 => ?_) (fun hB5 => ?_)
   ·have hc5 := dec_t hB5
    refine w_sr ?_
    refine o_rd (r_build (cs := [.str ([61, 61]), .int .i64 (21)]) Ty.zero93 Ty.pl93 tP rfl) rfl rfl ?_
    refine o_rd (r_build (cs := [.str ([33, 61]), .int .i64 (22)]) Ty.zero93 Ty.pl93 tP rfl) rfl rfl ?_
    refine o_rd (r_build (cs := [.str ([60]), .int .i64 (23)]) Ty.zero93 Ty.pl93 tP rfl) rfl rfl ?_
    refine o_rd (r_build (cs := [.str ([60, 61]), .int .i64 (24)]) Ty.zero93 Ty.pl93 tP rfl) rfl rfl ?_
    refine o_rd (r_build (cs := [.str ([62]), .int .i64 (25)]) Ty.zero93 Ty.pl93 tP rfl) rfl rfl ?_
    refine o_rd (r_build (cs := [.str ([62, 61]), .int .i64 (26)]) Ty.zero93 Ty.pl93 tP rfl) rfl rfl ?_
    refine o_nw WS (a_buildS6 Try.underlying90 Ty.csz93 Ty.zero93 tE tE tE tE tE tE) rfl rfl rfl (by simp) ?_; intro H6 n6 W6 X6 A6
    have E6 := E0.trans X6
    refine o_as ?_
    refine o_nil ?_
    refine w_ret ⟨.inr rfl, rfl, (freshSl (HS.n) 6 6), (show resultA Try.prog [.tmp 2] _ = _ from tR), ?_⟩
    try dsimp only
    have hl : lineL lv = [([61, 61], 21), ([33, 61], 22), ([60], 23), ([60, 61], 24), ([62], 25), ([62, 61], 26)] := by simp [lineL, hc1, hc3, hc5]
    rw [hl]; exact ⟨_, rfl, Nat.le_refl _, A6, X6⟩
   ·have hc5 := dec_f hB5
    refine w_sr ?_
    refine o_rd (r_eq (a := lv) (b := 4) tE tE) rfl rfl ?_
    refine o_as ?_
    refine o_nil ?_
    refine w_cond tE (fun hB7 => ?_) (fun hB7 => ?_)
    ·have hc7 := dec_t hB7
     refine w_sr ?_
     refine o_rd (r_build (cs := [.str ([43]), .int .i64 (31)]) Ty.zero93 Ty.pl93 tP rfl) rfl rfl ?_
     refine o_rd (r_build (cs := [.str ([45]), .int .i64 (32)]) Ty.zero93 Ty.pl93 tP rfl) rfl rfl ?_
     refine o_nw WS (a_buildS2 Try.underlying90 Ty.csz93 Ty.zero93 tE tE) rfl rfl rfl (by simp) ?_; intro H8 n8 W8 X8 A8
     have E8 := E0.trans X8
     refine o_as ?_
     refine o_nil ?_
     refine w_ret ⟨.inr rfl, rfl, (freshSl (HS.n) 2 2), (show resultA Try.prog [.tmp 2] _ = _ from tR), ?_⟩
     try dsimp only
     have hl : lineL lv = [([43], 31), ([45], 32)] := by simp [lineL, hc1, hc3, hc5, hc7]
     rw [hl]; exact ⟨_, rfl, Nat.le_refl _, A8, X8⟩
    ·have hc7 := dec_f hB7
     refine w_sr ?_
     refine o_rd (r_eq (a := lv) (b := 5) tE tE) rfl rfl ?_
     refine o_as ?_
     refine o_nil ?_
     refine w_cond tE (fun hB9 => ?_) (fun hB9 => ?_)
     ·have hc9 := dec_t hB9
      refine w_sr ?_
      refine o_rd (r_build (cs := [.str ([42]), .int .i64 (41)]) Ty.zero93 Ty.pl93 tP rfl) rfl rfl ?_
      refine o_rd (r_build (cs := [.str ([47]), .int .i64 (42)]) Ty.zero93 Ty.pl93 tP rfl) rfl rfl ?_
      refine o_rd (r_build (cs := [.str ([37]), .int .i64 (43)]) Ty.zero93 Ty.pl93 tP rfl) rfl rfl ?_
      refine o_nw WS (a_buildS3 Try.underlying90 Ty.csz93 Ty.zero93 tE tE tE) rfl rfl rfl (by simp) ?_; intro H10 n10 W10 X10 A10
      have E10 := E0.trans X10
      refine o_as ?_
      refine o_nil ?_
      refine w_ret ⟨.inr rfl, rfl, (freshSl (HS.n) 3 3), (show resultA Try.prog [.tmp 2] _ = _ from tR), ?_⟩
      try dsimp only
      have hl : lineL lv = [([42], 41), ([47], 42), ([37], 43)] := by simp [lineL, hc1, hc3, hc5, hc7, hc9]
      rw [hl]; exact ⟨_, rfl, Nat.le_refl _, A10, X10⟩
     ·have hc9 := dec_f hB9
      refine w_skip ?_
      refine w_sr ?_
      refine o_rd (r_build (cs := [.str ([45]), .int .i64 (1)]) Ty.zero93 Ty.pl93 tP rfl) rfl rfl ?_
      refine o_rd (r_build (cs := [.str ([33]), .int .i64 (2)]) Ty.zero93 Ty.pl93 tP rfl) rfl rfl ?_
      refine o_rd (r_build (cs := [.str ([60, 45]), .int .i64 (3)]) Ty.zero93 Ty.pl93 tP rfl) rfl rfl ?_
      refine o_nw WS (a_buildS3 Try.underlying90 Ty.csz93 Ty.zero93 tE tE tE) rfl rfl rfl (by simp) ?_; intro H11 n11 W11 X11 A11
      have E11 := E0.trans X11
      refine o_as ?_
      refine o_nil ?_
      refine w_ret ⟨.inr rfl, rfl, (freshSl (HS.n) 3 3), (show resultA Try.prog [.tmp 2] _ = _ from tR), ?_⟩
      try dsimp only
      have hl : lineL lv = [([45], 1), ([33], 2), ([60, 45], 3)] := by simp [lineL, hc1, hc3, hc5, hc7, hc9]
      rw [hl]; exact ⟨_, rfl, Nat.le_refl _, A11, X11⟩
theorem op_fin (ho : NoOrcBut [7, 21, 69, 81] orc) {H0 HS : AH} (W0 : Wf H0) (WS : Wf HS) (ES : Ext H0 HS) (ho81 : ∃ sg, ∀ H, orc 81 [] H = some (.ret sg, H)) (tx : Nat → List UInt8) (ho69 : ∀ k : Nat, k < 67 → ∀ H, orc 69 [.int .i64 (k : Int)] H = some (.ret (.str (tx k)), H)) (src : List UInt8) (sv : AV) (T : List TK) (tv : AV) (rb : Nat) (G : LK → Prop) (st : PS) (x : LK) (hS : SB H0 5 src sv) (hT : TS H0 T tv) (hO : TOk src T) (hR : RS H0 sv tv T.length rb G HS st x) (lv : Int) : Fin Try.prog orc 92 [.ptr (.mt (rb)) (0), .int .i64 (lv)] HS (fun r H' => OkR H0 sv tv T.length rb G HS x (mOp tx T lv st) (AV.int .i64) r H') := by
 have E0 := ES
 obtain ⟨nv, hA, hN⟩ := hR.at_; have hr0 := hR.r0; have hTl := hO.len; have hal := hR.al; have hSb := hS.bound; have hrbl := WS.lt hA; have hll := lineL_le lv
 refine fin_of Try.func92 rfl (by rw [Try.ntmps92]; simp) (ho _ rfl _ _) ?_
 rw [Try.ntmps92]
 refine w_sr ?_
 refine o_as ?_
 refine o_nil ?_
 refine w_seq ?_
 refine w_sr ?_
 refine o_mv ?_
 refine o_cl rfl rfl tS rfl (line_fin ho W0 WS E0 lv) rfl rfl ?_; rintro _ H1 ⟨bL, rfl, hbL, hrow, X1⟩
 have W1 := X1.wf; have E1 := E0.trans X1; have hA := X1.keep _ _ hA
 have R1 := hR.add (y := (bL, none)) X1 hbL (W1.lt hrow) (fun g hg => by cases hg)
 have hsl : freshSl bL (lineL lv).length (lineL lv).length = .sl (.mt bL) 0 (lineL lv).length (lineL lv).length := rfl
 refine o_rd (r_len (n := (lineL lv).length) Try.underlying90 tE rfl) rfl rfl ?_
 refine o_mv ?_
 refine o_nil ?_
 refine w_block ?_
 refine w_loop (fun m s => ∃ (e : Env) (H : AH) (stL : PS) (xL : LK) (nvL : AV) (iL : Nat), s = ⟨e, H, []⟩ ∧ e.val 0 = .ptr (.mt (rb)) (0) ∧ e.val 4 = .int .i64 (0) ∧ e.val 8 = .sl (.mt bL) (0) ((lineL lv).length) (lineL lv).length ∧ e.val 9 = .int .i64 ((((lineL lv).length : Nat) : Int)) ∧ e.val 10 = .int .i64 (((iL : Nat) : Int)) ∧ Wf H ∧ Ext H0 H ∧ H.at (rb) = some (.row [sv, tv, .int .i64 (((stL.a : Nat) : Int)), nvL] 58 false none) ∧ (m = (lineL lv).length - iL) ∧ (mOp tx T lv st = mOps tx T ((lineL lv).drop iL) stL) ∧ (RS H0 sv tv T.length rb (fun z => G z ∨ z = (bL, none)) H stL xL) ∧ (Fr2 rb HS x H xL) ∧ (H.at bL = some (.row (sgC (lineL lv)) 93 false none))) ((lineL lv).length - 0) ⟨_, H1, st, x, _, 0, rfl, tV, tV, tV, tV, tV, W1, E1, hA, rfl, rfl, R1, ((Fr2.refl WS).trans WS (Fr2.ofExt X1)), hrow⟩ ?_
 intro m s hi
 obtain ⟨e, H2, stL, xL, nvL, iL, rfl, vt0, vt4, vt8, vt9, vt10, W2, E2, hA, hm, heq, R, F, hrow⟩ := hi
 have vA := And.intro vt0 (And.intro vt4 (And.intro vt8 (And.intro vt9 vt10)))
 have l2_0 := W2.lt hA
 refine w_sr ?_
 refine o_rd (r_lt (a := ((iL : Nat) : Int)) (b := (((lineL lv).length : Nat) : Int)) tE tE) rfl rfl ?_
 refine o_nil ?_
 refine w_seq ?_
 refine w_cond tE (fun hB3 => ?_) (fun hB3 => ?_)
 ·have hc3 := dec_t hB3
  refine w_skip ?_
  refine w_seq ?_
  refine w_block ?_
  refine w_sr ?_
  have hiL : iL < (lineL lv).length := by omega
  refine o_rd (r_indexAddr Try.underlying90 Ty.csz93 tE tE hiL) rfl rfl ?_
  refine o_rd (r_loadN Ty.agg93 Ty.csz93 tE (sg_read hrow hiL)) rfl rfl ?_
  refine o_nw W2 (a_alloc Ty.zero93) rfl rfl rfl (by simp) ?_; intro H4 n4 W4 X4 A4
  have A4 : H4.at H2.n = some (.row [.str ([]), .int .i64 (0)] 93 false none) := A4
  have E4 := E2.trans X4
  have g4 : H0.n ≤ H2.n := E2.n
  have hA := X4.keep _ _ hA
  refine o_st W4 tE tE A4 Ty.csz93 rfl (Nat.le_of_ble_eq_true rfl) (by rfl) rfl rfl ?_; intro H5 n5 W5 A5 K5
  have A5 : H5.at H2.n = some (.row [.str (((lineL lv)[iL]'hiL).1), .int .i64 (((lineL lv)[iL]'hiL).2)] 93 false none) := A5
  have E5 := Ext.put W0 E4 (by have := E4.n; omega) K5 n5 W5
  have hA := K5.own hA (by omega)
  refine o_nil ?_
  refine w_sr ?_
  refine o_mv ?_
  refine o_rd (r_fieldAddr Ty.fo93_0 tE) rfl rfl ?_
  refine o_rd (r_load1 (v := .str (((lineL lv)[iL]'hiL).1)) Ty.agg9 tE (read_mt A5 (Nat.le_of_ble_eq_true rfl))) rfl rfl ?_
  refine o_cl rfl rfl tS rfl (got_fin ho W0 W5 E5 ho81 tx ho69 src sv T tv rb (fun z => G z ∨ z = (bL, none)) stL xL hS hT hO (R.ext (Ext.put R.w X4 (by omega) K5 n5 W5)) ((lineL lv)[iL]'hiL).1) rfl rfl ?_; rintro _ H6 ⟨v6, st6, x6, hres6, rfl, R6, F6⟩
  obtain ⟨nv6, hA6, hN6⟩ := R6.at_
  have W6 := R6.w; have E6 := R6.e; have FF6 := (F.trans WS (Fr2.ofExt (Ext.put R.w X4 (by omega) K5 n5 W5))).trans WS F6; have hal6 := R6.al
  have A5 := F6.keep _ _ A5 (by omega) (by have := R.xlt.1; omega) (.inl rfl)
  have hrow6 := row_fr (R.ext (Ext.put R.w X4 (by omega) K5 n5 W5)) F6 ((Ext.put R.w X4 (by omega) K5 n5 W5).keep _ _ hrow)
  refine o_nil ?_
  refine w_cond tE (fun hB7 => ?_) (fun hB7 => ?_)
  ·have hc7 := hB7
   refine w_sr ?_
   refine o_rd (r_fieldAddr Ty.fo93_1 tE) rfl rfl ?_
   refine o_rd (r_load1 (v := .int .i64 (((lineL lv)[iL]'hiL).2)) Ty.agg3 tE (read_mt A5 (Nat.le_of_ble_eq_true rfl))) rfl rfl ?_
   refine o_as ?_
   refine o_nil ?_
   refine w_ret ⟨.inr rfl, rfl, .int .i64 (((lineL lv)[iL]'hiL).2), (show resultA Try.prog [.tmp 4] _ = _ from tR), ?_⟩
   try dsimp only
   exact ⟨_, st6, x6, heq.trans (mOps_yes hiL (by rw [hres6, hc7])), rfl, (R6.anti (fun z hz => Or.inl hz)), FF6⟩
  ·have hc7 := hB7
   refine w_skip ?_
   refine w_region ?_
   refine o_rd (r_addE (a := ((iL : Nat) : Int)) (b := 1) (c := ((iL + 1 : Nat) : Int)) tE tE (by omega) (by omega) (by omega)) rfl rfl ?_
   refine o_mv ?_
   refine o_nil ?_
   exact ⟨(lineL lv).length - (iL + 1), (by omega), _, H6, st6, x6, _, iL + 1, rfl, tV, tV, tV, tV, tV, W6, E6, hA6, rfl, (heq.trans (mOps_no hiL (by rw [hres6, hc7]))), R6, FF6, hrow6⟩
 ·have hc3 := dec_f hB3
  first | refine w_exit (blk_exit ?_) | refine w_exit (show (0 = 0 → _) ∧ (0 ≠ 0 → _) from ⟨fun _ => ?_, fun c => absurd rfl c⟩)
  refine w_sr ?_
  refine o_as ?_
  refine o_nil ?_
  refine w_ret ⟨.inr rfl, rfl, .int .i64 (0), (show resultA Try.prog [.tmp 4] _ = _ from tR), ?_⟩
  try dsimp only
  exact ⟨_, stL, xL, heq.trans (mOps_end (by omega)), rfl, (R.anti (fun z hz => Or.inl hz)), F⟩
end Go.Proofs.Ytehmhhlhlipbnaa.Vs
