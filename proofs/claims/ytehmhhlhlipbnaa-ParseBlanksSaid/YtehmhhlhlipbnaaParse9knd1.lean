/-
 The rest of the reader's functions.
-/
import Derived.Test.YtehmhhlhlipbnaaParse8
set_option autoImplicit false
set_option linter.unusedVariables false
set_option linter.unusedSimpArgs false
namespace Go.Proofs.Ytehmhhlhlipbnaa.Vs
open Go.VI Go.Proofs
variable {orc : CallF}
set_option maxRecDepth 100000 in
set_option maxHeartbeats 4000000 in
theorem knd1_fin (ho : NoOrcBut [7, 21, 69, 81] orc) {H0 HS : AH} (W0 : Wf H0) (WS : Wf HS) (ES : Ext H0 HS) (src : List UInt8) (sv : AV) (T : List TK) (tv : AV) (rb : Nat) (G : LK → Prop) (st : PS) (x : LK) (hS : SB H0 5 src sv) (hT : TS H0 T tv) (hO : TOk src T) (hR : RS H0 sv tv T.length rb G HS st x)  : Fin Try.prog orc 68 [.ptr (.mt (rb)) (0), .int .i64 (1)] HS (fun r H' => r = .int .i64 (knF T (st.a + 1)) ∧ Ext HS H') := by
 have E0 := ES
 obtain ⟨nv, hA, hN⟩ := hR.at_; have hr0 := hR.r0; have hTl := hO.len; have hal := hR.al; have hSb := hS.bound; have hrbl := WS.lt hA
 refine fin_of Try.func68 rfl (by rw [Try.ntmps68]; simp) (ho _ rfl _ _) ?_
 rw [Try.ntmps68]
 refine w_sr ?_
 refine o_as ?_
 refine o_nil ?_
 refine w_seq ?_
 refine w_seq ?_
 refine w_draw (ms := [0, 1, 3, 7, 0, 31, 0, 64, 192, 448, 960, 2047]) (ord := [0, 1, 2, 3, 4, 5, 6, 7, 8, 9, 10, 11]) (by kernel_rfl) (by kernel_rfl) (by kernel_rfl) ?_
 refine d_rd rfl (r_move tE) rfl rfl ?_
 refine d_rd rfl (r_nilChk tE) rfl rfl ?_
 refine d_rd rfl (r_fieldAddr Ty.fo58_2 tE) rfl rfl ?_
 refine d_rd rfl (r_load1 (v := .int .i64 (((st.a : Nat) : Int))) Ty.agg3 tE (read_mt hA (Nat.le_of_ble_eq_true rfl))) rfl rfl ?_
 refine d_rd rfl (r_move tE) rfl rfl ?_
 refine d_rd rfl (r_addE (a := ((st.a : Nat) : Int)) (b := 1) (c := ((st.a + 1 : Nat) : Int)) tE tE (by omega) (by omega) (by omega)) rfl rfl ?_
 refine d_rd rfl (r_move tE) rfl rfl ?_
 refine d_rd rfl (r_nilChk tE) rfl rfl ?_
 refine d_rd rfl (r_fieldAddr Ty.fo58_1 tE) rfl rfl ?_
 refine d_rd rfl (r_load1 (v := tv) Ty.agg43 tE (read_mt hA (Nat.le_of_ble_eq_true rfl))) rfl rfl ?_
 refine d_rd rfl (r_len (n := T.length) Try.underlying43 tE hT.lenOf) rfl rfl ?_
 refine d_rd rfl (r_lt (a := ((st.a + 1 : Nat) : Int)) (b := ((T.length : Nat) : Int)) tE tE) rfl rfl ?_
 refine d_nil ?_
 refine w_cond tE (fun hB1 => ?_) (fun hB1 => ?_)
 ·have hc1 := dec_t hB1
  refine w_seq ?_
  refine w_draw (ms := [0, 1, 3, 7, 0, 16, 48, 112, 0, 496, 1023, 2047, 4095, 8191]) (ord := [0, 1, 2, 3, 4, 5, 6, 7, 8, 9, 10, 11, 12, 13]) (by kernel_rfl) (by kernel_rfl) (by kernel_rfl) ?_
  have hat : st.a + 1 < T.length := by omega
  obtain ⟨loc1, off1, cap1, rfl, hrt⟩ := hT.get hat
  refine d_rd rfl (r_move tE) rfl rfl ?_
  refine d_rd rfl (r_nilChk tE) rfl rfl ?_
  refine d_rd rfl (r_fieldAddr Ty.fo58_1 tE) rfl rfl ?_
  refine d_rd rfl (r_load1 (v := .sl loc1 (off1) (T.length) cap1) Ty.agg43 tE (read_mt hA (Nat.le_of_ble_eq_true rfl))) rfl rfl ?_
  refine d_rd rfl (r_move tE) rfl rfl ?_
  refine d_rd rfl (r_nilChk tE) rfl rfl ?_
  refine d_rd rfl (r_fieldAddr Ty.fo58_2 tE) rfl rfl ?_
  refine d_rd rfl (r_load1 (v := .int .i64 (((st.a : Nat) : Int))) Ty.agg3 tE (read_mt hA (Nat.le_of_ble_eq_true rfl))) rfl rfl ?_
  refine d_rd rfl (r_move tE) rfl rfl ?_
  refine d_rd rfl (r_addE (a := ((st.a : Nat) : Int)) (b := 1) (c := ((st.a + 1 : Nat) : Int)) tE tE (by omega) (by omega) (by omega)) rfl rfl ?_
  refine d_rd rfl (r_indexAddr Try.underlying43 Ty.csz47 tE tE hat) rfl rfl ?_
  refine d_rd rfl (r_fieldAddr Ty.fo47_0 tE) rfl rfl ?_
  refine d_rd rfl (r_load1 Ty.agg3 tE ((read_part (Ext.read (H := H0) (by assumption) hrt) (o := 0) (m := 1) (by decide)).trans rfl)) rfl rfl ?_
  refine d_rd rfl (r_assign tE) rfl rfl ?_
  refine d_nil ?_
  refine w_ret ⟨.inr rfl, rfl, .int .i64 ((T[st.a + 1]'hat).k), (show resultA Try.prog [.tmp 4] _ = _ from tR), ?_⟩
  try dsimp only
  exact ⟨congrArg (AV.int .i64) (by first | rw [knF_at hat] | rw [knF_no (by omega)]), Ext.refl WS⟩
 ·have hc1 := dec_f hB1
  refine w_skip ?_
  refine w_sr ?_
  refine o_as ?_
  refine o_nil ?_
  refine w_ret ⟨.inr rfl, rfl, .int .i64 (0), (show resultA Try.prog [.tmp 4] _ = _ from tR), ?_⟩
  try dsimp only
  exact ⟨congrArg (AV.int .i64) (by first | rw [knF_at hat] | rw [knF_no (by omega)]), Ext.refl WS⟩
end Go.Proofs.Ytehmhhlhlipbnaa.Vs
