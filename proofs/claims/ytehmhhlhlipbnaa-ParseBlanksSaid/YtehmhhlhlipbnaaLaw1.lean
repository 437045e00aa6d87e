/-
 numbers and nodes of squintlaw03: whether two lists are the same.
-/
import Derived.Test.YtehmhhlhlipbnaaPlain2
set_option autoImplicit false
set_option linter.unusedVariables false
set_option linter.unusedSimpArgs false
set_option maxRecDepth 100000
set_option maxHeartbeats 4000000
namespace Go.Proofs.Ytehmhhlhlipbnaa.Vs
open Go.VI Go.Proofs
variable {orc : CallF}
def nodeP (but : Bool) (x y : ND) : Prop := x.k = y.k ∧ (but = true ∨ x.at_ = y.at_) ∧ x.nm = y.nm ∧ x.n = y.n ∧ x.ks = y.ks
def nodesP (but : Bool) (l m : List ND) : Prop := l.length = m.length ∧ ∀ i, (h : i < l.length) → (h' : i < m.length) → nodeP but l[i] m[i]
open Classical in
noncomputable def nodesB (but : Bool) (l m : List ND) : Bool := decide (nodesP but l m)
theorem nodesB_t {but : Bool} {l m : List ND} : nodesB but l m = true ↔ nodesP but l m := by unfold nodesB; simp
theorem nodesB_f {but : Bool} {l m : List ND} : nodesB but l m = false ↔ ¬ nodesP but l m := by unfold nodesB; simp
theorem numbers_fin (ho : NoOrcBut [7, 21, 69, 81] orc) {H0 : AH} (W0 : Wf H0) (a b : List Int) (va vb : AV) (ha : SI H0 a va) (hb : SI H0 b vb) : Fin Try.prog orc 17 [va, vb] H0 (fun r H' => r = .bool (decide (a = b)) ∧ Ext H0 H') := by
 have E0 := Ext.refl W0
 have bb1 := ha.bound; have bb2 := hb.bound
 refine fin_of Try.func17 rfl (by rw [Try.ntmps17]; simp) (ho _ rfl _ _) ?_
 rw [Try.ntmps17]
 refine w_sr ?_
 refine o_as ?_
 refine o_nil ?_
 refine w_seq ?_
 refine w_sr ?_
 refine o_mv ?_
 refine o_rd (r_len (n := a.length) Try.underlying39 tE ha.lenOf) rfl rfl ?_
 refine o_mv ?_
 refine o_rd (r_len (n := b.length) Try.underlying39 tE hb.lenOf) rfl rfl ?_
 refine o_rd (r_ne (a := ((a.length : Nat) : Int)) (b := ((b.length : Nat) : Int)) tE tE) rfl rfl ?_
 refine o_nil ?_
 refine w_cond tE (fun hB1 => ?_) (fun hB1 => ?_)
 ·have hc1 := dec_t hB1
  refine w_sr ?_
  refine o_as ?_
  refine o_nil ?_
  refine w_ret ⟨.inr rfl, rfl, .bool (false), (show resultA Try.prog [.tmp 4] _ = _ from tR), ?_⟩
  try dsimp only
  refine ⟨congrArg AV.bool (Eq.symm ?_), E0⟩; first | exact decide_eq_false (fun h => by subst h; omega) | exact decide_eq_false (fun h => by subst h; exact absurd rfl (by assumption)) | (refine decide_eq_true ?_; have e1 : i = a.length := (by omega); subst e1; rw [List.take_length, List.take_of_length_le (by omega)] at htk; exact htk)
 ·have hc1 := dec_fn hB1
  refine w_skip ?_
  refine w_seq ?_
  refine w_sr ?_
  refine o_mv ?_
  refine o_rd (r_len (n := a.length) Try.underlying39 tE ha.lenOf) rfl rfl ?_
  refine o_mv ?_
  refine o_nil ?_
  refine w_block ?_
  refine w_loop (fun m s => ∃ (e : Env) (H : AH) (i : Nat), s = ⟨e, H, []⟩ ∧ e.val 0 = va ∧ e.val 1 = vb ∧ e.val 4 = .bool (false) ∧ e.val 12 = .int .i64 (((a.length : Nat) : Int)) ∧ e.val 13 = .int .i64 (((i : Nat) : Int)) ∧ Wf H ∧ Ext H0 H ∧ (i + m = a.length) ∧ (a.take i = b.take i)) (a.length) ⟨_, H0, 0, rfl, tV, tV, tV, tV, tV, W0, E0, (by omega), rfl⟩ ?_
  intro m s hi
  obtain ⟨e, H2, i, rfl, vt0, vt1, vt4, vt12, vt13, W2, E2, him, htk⟩ := hi
  have vA := And.intro vt0 (And.intro vt1 (And.intro vt4 (And.intro vt12 vt13)))
  refine w_sr ?_
  refine o_rd (r_lt (a := ((i : Nat) : Int)) (b := ((a.length : Nat) : Int)) tE tE) rfl rfl ?_
  refine o_nil ?_
  refine w_seq ?_
  refine w_cond tE (fun hB3 => ?_) (fun hB3 => ?_)
  ·have hc3 := dec_t hB3
   refine w_skip ?_
   refine w_seq ?_
   refine w_block ?_
   refine w_sr ?_
   refine o_mv ?_
   refine o_as ?_
   refine o_nil ?_
   refine w_seq ?_
   refine w_draw (ms := [0, 0, 3, 7, 0, 0, 48, 112, 255]) (ord := [0, 1, 2, 3, 4, 5, 6, 7, 8]) (by kernel_rfl) (by kernel_rfl) (by kernel_rfl) ?_
   have hi1 : i < a.length := by omega
   have hi2 : i < b.length := by omega
   obtain ⟨loc1, off1, cap1, rfl, hr1⟩ := ha.get hi1
   obtain ⟨loc2, off2, cap2, rfl, hr2⟩ := hb.get hi2
   refine d_rd rfl (r_move tE) rfl rfl ?_
   refine d_rd rfl (r_move tE) rfl rfl ?_
   refine d_rd rfl (r_indexAddr Try.underlying39 Ty.csz3 tE tE hi1) rfl rfl ?_
   refine d_rd rfl (r_load1 Ty.agg3 tE (Ext.read (H := H0) (by assumption) hr1)) rfl rfl ?_
   refine d_rd rfl (r_move tE) rfl rfl ?_
   refine d_rd rfl (r_move tE) rfl rfl ?_
   refine d_rd rfl (r_indexAddr Try.underlying39 Ty.csz3 tE tE hi2) rfl rfl ?_
   refine d_rd rfl (r_load1 Ty.agg3 tE (Ext.read (H := H0) (by assumption) hr2)) rfl rfl ?_
   refine d_rd rfl (r_ne (a := a[i]) (b := b[i]) tE tE) rfl rfl ?_
   refine d_nil ?_
   refine w_cond tE (fun hB4 => ?_) (fun hB4 => ?_)
   ·have hc4 := dec_t hB4
    refine w_sr ?_
    refine o_as ?_
    refine o_nil ?_
    refine w_ret ⟨.inr rfl, rfl, .bool (false), (show resultA Try.prog [.tmp 4] _ = _ from tR), ?_⟩
    try dsimp only
    refine ⟨congrArg AV.bool (Eq.symm ?_), E2⟩; first | exact decide_eq_false (fun h => by subst h; omega) | exact decide_eq_false (fun h => by subst h; exact absurd rfl (by assumption)) | (refine decide_eq_true ?_; have e1 : i = a.length := (by omega); subst e1; rw [List.take_length, List.take_of_length_le (by omega)] at htk; exact htk)
   ·have hc4 := dec_fn hB4
    refine w_skip ?_
    refine w_region ?_
    refine o_rd (r_addE (a := ((i : Nat) : Int)) (b := 1) (c := ((i + 1 : Nat) : Int)) tE tE (by omega) (by omega) (by omega)) rfl rfl ?_
    refine o_mv ?_
    refine o_nil ?_
    have hee : a[i] = b[i] := by omega
    exact ⟨m - 1, (by omega), _, H2, i + 1, rfl, tV, tV, tV, tV, tV, W2, E2, (by omega), (by rw [List.take_succ_eq_append_getElem hi1, List.take_succ_eq_append_getElem hi2, htk, hee])⟩
  ·have hc3 := dec_f hB3
   first | refine w_exit (blk_exit ?_) | refine w_exit (show (0 = 0 → _) ∧ (0 ≠ 0 → _) from ⟨fun _ => ?_, fun c => absurd rfl c⟩)
   refine w_sr ?_
   refine o_as ?_
   refine o_nil ?_
   refine w_ret ⟨.inr rfl, rfl, .bool (true), (show resultA Try.prog [.tmp 4] _ = _ from tR), ?_⟩
   try dsimp only
   refine ⟨congrArg AV.bool (Eq.symm ?_), E2⟩; first | exact decide_eq_false (fun h => by subst h; omega) | exact decide_eq_false (fun h => by subst h; exact absurd rfl (by assumption)) | (refine decide_eq_true ?_; have e1 : i = a.length := (by omega); subst e1; rw [List.take_length, List.take_of_length_le (by omega)] at htk; exact htk)
theorem nodes_fin (ho : NoOrcBut [7, 21, 69, 81] orc) {H0 : AH} (W0 : Wf H0) (but : Bool) (l m : List ND) (vl vm : AV) (hl : NS H0 l vl) (hm : NS H0 m vm) : Fin Try.prog orc 14 [vl, vm, .bool (but)] H0 (fun r H' => r = .bool (nodesB but l m) ∧ Ext H0 H') := by
 have E0 := Ext.refl W0
 have bb1 := hl.bound; have bb2 := hm.bound
 refine fin_of Try.func14 rfl (by rw [Try.ntmps14]; simp) (ho _ rfl _ _) ?_
 rw [Try.ntmps14]
 refine w_sr ?_
 refine o_as ?_
 refine o_nil ?_
 refine w_seq ?_
 refine w_sr ?_
 refine o_mv ?_
 refine o_rd (r_len (n := l.length) Try.underlying31 tE hl.lenOf) rfl rfl ?_
 refine o_mv ?_
 refine o_rd (r_len (n := m.length) Try.underlying31 tE hm.lenOf) rfl rfl ?_
 refine o_rd (r_ne (a := ((l.length : Nat) : Int)) (b := ((m.length : Nat) : Int)) tE tE) rfl rfl ?_
 refine o_nil ?_
 refine w_cond tE (fun hB1 => ?_) (fun hB1 => ?_)
 ·have hc1 := dec_t hB1
  refine w_sr ?_
  refine o_as ?_
  refine o_nil ?_
  refine w_ret ⟨.inr rfl, rfl, .bool (false), (show resultA Try.prog [.tmp 6] _ = _ from tR), ?_⟩
  try dsimp only
  refine ⟨congrArg AV.bool (nodesB_f.2 ?_).symm, E0⟩; first | (rintro ⟨h1, h2⟩; omega) | (rintro ⟨h1, h2⟩; obtain ⟨q1, q2, q3, q4, q5⟩ := h2 i hi1 hi2; first | omega | (exact absurd q3 (by assumption)) | (exact absurd q5 (by assumption)) | (rcases q2 with q2 | q2 <;> first | omega | exact absurd (q2.symm.trans (by first | assumption | (exact not_t (by assumption)) : but = false)) (by decide)))
 ·have hc1 := dec_fn hB1
  refine w_skip ?_
  refine w_seq ?_
  refine w_sr ?_
  refine o_mv ?_
  refine o_rd (r_len (n := l.length) Try.underlying31 tE hl.lenOf) rfl rfl ?_
  refine o_mv ?_
  refine o_nil ?_
  refine w_block ?_
  refine w_loop (fun n s => ∃ (e : Env) (H : AH) (i : Nat), s = ⟨e, H, []⟩ ∧ e.val 0 = vl ∧ e.val 1 = vm ∧ e.val 2 = .bool (but) ∧ e.val 6 = .bool (false) ∧ e.val 16 = .int .i64 (((l.length : Nat) : Int)) ∧ e.val 17 = .int .i64 (((i : Nat) : Int)) ∧ Wf H ∧ Ext H0 H ∧ (i + n = l.length) ∧ (∀ j, (h : j < l.length) → (h' : j < m.length) → j < i → nodeP but l[j] m[j])) (l.length) ⟨_, H0, 0, rfl, tV, tV, tV, tV, tV, tV, W0, E0, (by omega), (by intro j _ _ h; omega)⟩ ?_
  intro n s hi
  obtain ⟨e, H2, i, rfl, vt0, vt1, vt2, vt6, vt16, vt17, W2, E2, him, hall⟩ := hi
  have vA := And.intro vt0 (And.intro vt1 (And.intro vt2 (And.intro vt6 (And.intro vt16 vt17))))
  refine w_sr ?_
  refine o_rd (r_lt (a := ((i : Nat) : Int)) (b := ((l.length : Nat) : Int)) tE tE) rfl rfl ?_
  refine o_nil ?_
  refine w_seq ?_
  refine w_cond tE (fun hB3 => ?_) (fun hB3 => ?_)
  ·have hc3 := dec_t hB3
   refine w_skip ?_
   refine w_seq ?_
   refine w_block ?_
   refine w_sr ?_
   refine o_mv ?_
   refine o_as ?_
   refine o_nil ?_
   refine w_seq ?_
   refine w_draw (ms := [0, 0, 3, 7, 0, 0, 48, 112, 0, 0, 783, 2047]) (ord := [0, 1, 2, 3, 4, 5, 6, 7, 8, 9, 10, 11]) (by kernel_rfl) (by kernel_rfl) (by kernel_rfl) ?_
   have hi1 : i < l.length := by omega
   have hi2 : i < m.length := by omega
   obtain ⟨loc1, off1, cap1, sk1, rfl, hr1, hK1⟩ := hl.get hi1
   obtain ⟨loc2, off2, cap2, sk2, rfl, hr2, hK2⟩ := hm.get hi2
   refine d_rd rfl (r_move tE) rfl rfl ?_
   refine d_rd rfl (r_move tE) rfl rfl ?_
   refine d_rd rfl (r_indexAddr Try.underlying31 Ty.csz51 tE tE hi1) rfl rfl ?_
   refine d_rd rfl (r_loadN Ty.agg51 Ty.csz51 tE (Ext.read (H := H0) (by assumption) hr1)) rfl rfl ?_
   refine d_rd rfl (r_move tE) rfl rfl ?_
   refine d_rd rfl (r_move tE) rfl rfl ?_
   refine d_rd rfl (r_indexAddr Try.underlying31 Ty.csz51 tE tE hi2) rfl rfl ?_
   refine d_rd rfl (r_loadN Ty.agg51 Ty.csz51 tE (Ext.read (H := H0) (by assumption) hr2)) rfl rfl ?_
   refine d_nw rfl W2 (a_alloc Ty.zero51) rfl rfl rfl (by simp) ?_; intro H4 n4 W4 X4 A4
   have A4 : H4.at H2.n = some (.row [.int .i64 (0), .int .i64 (0), .nils, .str ([]), .int .i64 (0)] 51 false none) := A4
   have E4 := E2.trans X4
   have g4 : H0.n ≤ H2.n := E2.n
   refine ⟨re_same (r_loadN Ty.agg51 Ty.csz51 tE (Ext.read (H := H0) (by assumption) hr2)) (re_same (r_indexAddr Try.underlying31 Ty.csz51 tE tE hi2) (re_same (r_move tE) (re_same (r_move tE) (re_same (r_loadN Ty.agg51 Ty.csz51 tE (Ext.read (H := H0) (by assumption) hr1)) (re_same (r_indexAddr Try.underlying31 Ty.csz51 tE tE hi1) (re_same (r_move tE) (re_same (r_move tE) (re_nil)))))))), ?_⟩
   refine d_nw rfl W4 (a_alloc Ty.zero51) rfl rfl rfl (by simp) ?_; intro H5 n5 W5 X5 A5
   have A5 : H5.at H4.n = some (.row [.int .i64 (0), .int .i64 (0), .nils, .str ([]), .int .i64 (0)] 51 false none) := A5
   have E5 := E4.trans X5
   have g5 : H0.n ≤ H4.n := E4.n
   have A4 := X5.keep _ _ A4
   refine ⟨re_same (r_loadN Ty.agg51 Ty.csz51 tE (Ext.read (H := H0) (by assumption) hr2)) (re_same (r_indexAddr Try.underlying31 Ty.csz51 tE tE hi2) (re_same (r_move tE) (re_same (r_move tE) (re_same (r_loadN Ty.agg51 Ty.csz51 tE (Ext.read (H := H0) (by assumption) hr1)) (re_same (r_indexAddr Try.underlying31 Ty.csz51 tE tE hi1) (re_same (r_move tE) (re_same (r_move tE) (re_nil)))))))), ?_⟩
   refine d_st rfl W5 tE tE A4 Ty.csz51 rfl (Nat.le_of_ble_eq_true rfl) (by first | rfl | (exact (NA.of hK1).ones) | (exact (NA.of hK2).ones)) rfl rfl ?_; intro H6 n6 W6 A6 K6
   have A6 : H6.at H2.n = some (.row [.int .i64 (l[i].k), .int .i64 (l[i].at_), sk1, .str (l[i].nm), .int .i64 (l[i].n)] 51 false none) := A6
   have E6 := Ext.put W0 E5 (by have := E5.n; omega) K6 n6 W6
   have A5 := K6.own A5 (by omega)
   refine ⟨re_same (r_loadN Ty.agg51 Ty.csz51 tE (Ext.read (H := H0) (by assumption) hr2)) (re_same (r_indexAddr Try.underlying31 Ty.csz51 tE tE hi2) (re_same (r_move tE) (re_same (r_move tE) (re_forcedL (M := 783) (I := 3) rfl rfl (by decide) (re_forcedL (M := 783) (I := 2) rfl rfl (by decide) (re_forcedL (M := 783) (I := 1) rfl rfl (by decide) (re_forcedL (M := 783) (I := 0) rfl rfl (by decide) (re_nil)))))))), ?_⟩
   refine d_st rfl W6 tE tE A5 Ty.csz51 rfl (Nat.le_of_ble_eq_true rfl) (by first | rfl | (exact (NA.of hK1).ones) | (exact (NA.of hK2).ones)) rfl rfl ?_; intro H7 n7 W7 A7 K7
   have A7 : H7.at H4.n = some (.row [.int .i64 (m[i].k), .int .i64 (m[i].at_), sk2, .str (m[i].nm), .int .i64 (m[i].n)] 51 false none) := A7
   have E7 := Ext.put W0 E6 (by have := E6.n; omega) K7 n7 W7
   have A6 := K7.own A6 (by omega)
   refine ⟨re_forcedL (M := 2047) (I := 7) rfl rfl (by decide) (re_forcedL (M := 2047) (I := 6) rfl rfl (by decide) (re_forcedL (M := 2047) (I := 5) rfl rfl (by decide) (re_forcedL (M := 2047) (I := 4) rfl rfl (by decide) (re_forcedL (M := 2047) (I := 3) rfl rfl (by decide) (re_forcedL (M := 2047) (I := 2) rfl rfl (by decide) (re_forcedL (M := 2047) (I := 1) rfl rfl (by decide) (re_forcedL (M := 2047) (I := 0) rfl rfl (by decide) (re_nil)))))))), ?_⟩
   refine d_nil ?_
   refine w_sr ?_
   refine o_rd (r_fieldAddr Ty.fo51_0 tE) rfl rfl ?_
   refine o_rd (r_load1 (v := .int .i64 (l[i].k)) Ty.agg3 tE (read_mt A6 (Nat.le_of_ble_eq_true rfl))) rfl rfl ?_
   refine o_rd (r_fieldAddr Ty.fo51_0 tE) rfl rfl ?_
   refine o_rd (r_load1 (v := .int .i64 (m[i].k)) Ty.agg3 tE (read_mt A7 (Nat.le_of_ble_eq_true rfl))) rfl rfl ?_
   refine o_rd (r_ne (a := l[i].k) (b := m[i].k) tE tE) rfl rfl ?_
   refine o_mv ?_
   cases hg8 : (decide (l[i].k ≠ m[i].k) : Bool)
   ·have hg8 := dec_fn hg8
    refine o_rd (r_fieldAddr Ty.fo51_1 tE) rfl ((wanted_of (b := false) rfl rfl rfl tV).trans rfl) ?_
    refine o_rd (r_load1 (v := .int .i64 (l[i].at_)) Ty.agg3 tE (read_mt A6 (Nat.le_of_ble_eq_true rfl))) rfl ((wanted_of (b := false) rfl rfl rfl tV).trans rfl) ?_
    refine o_rd (r_fieldAddr Ty.fo51_1 tE) rfl ((wanted_of (b := false) rfl rfl rfl tV).trans rfl) ?_
    refine o_rd (r_load1 (v := .int .i64 (m[i].at_)) Ty.agg3 tE (read_mt A7 (Nat.le_of_ble_eq_true rfl))) rfl ((wanted_of (b := false) rfl rfl rfl tV).trans rfl) ?_
    refine o_rd (r_ne (a := l[i].at_) (b := m[i].at_) tE tE) rfl ((wanted_of (b := false) rfl rfl rfl tV).trans rfl) ?_
    refine o_rd (r_move tE) rfl ((wanted_of (b := false) rfl rfl rfl tV).trans rfl) ?_
    cases hg9 : (decide (l[i].at_ ≠ m[i].at_) : Bool)
    ·have hg9 := dec_fn hg9
     refine o_sk rfl ((wanted_of (b := false) rfl rfl rfl tV).trans rfl) ?_
     refine o_sk rfl ((wanted_of (b := false) rfl rfl rfl tV).trans rfl) ?_
     refine o_rd (r_pick (t := false) tE (fun h => by cases h) (fun _ => tE)) rfl ((wanted_of (b := false) rfl rfl rfl tV).trans rfl) ?_
     refine o_rd (r_pick (t := false) tE (fun h => by cases h) (fun _ => tE)) rfl rfl ?_
     refine o_mv ?_
     refine o_rd (r_fieldAddr Ty.fo51_3 tE) rfl ((wanted_of (b := false) rfl rfl rfl tV).trans rfl) ?_
     refine o_rd (r_load1 (v := .str (l[i].nm)) Ty.agg9 tE (read_mt A6 (Nat.le_of_ble_eq_true rfl))) rfl ((wanted_of (b := false) rfl rfl rfl tV).trans rfl) ?_
     refine o_rd (r_fieldAddr Ty.fo51_3 tE) rfl ((wanted_of (b := false) rfl rfl rfl tV).trans rfl) ?_
     refine o_rd (r_load1 (v := .str (m[i].nm)) Ty.agg9 tE (read_mt A7 (Nat.le_of_ble_eq_true rfl))) rfl ((wanted_of (b := false) rfl rfl rfl tV).trans rfl) ?_
     refine o_rd (r_neS (a := l[i].nm) (b := m[i].nm) Try.underlying9 tE tE) rfl ((wanted_of (b := false) rfl rfl rfl tV).trans rfl) ?_
     refine o_rd (r_pick (t := false) tE (fun h => by cases h) (fun _ => tE)) rfl rfl ?_
     refine o_mv ?_
     cases hg10 : (!decide (l[i].nm = m[i].nm) : Bool)
     ·have hg10 := dec_t (not_f hg10)
      refine o_rd (r_fieldAddr Ty.fo51_4 tE) rfl ((wanted_of (b := false) rfl rfl rfl tV).trans rfl) ?_
      refine o_rd (r_load1 (v := .int .i64 (l[i].n)) Ty.agg3 tE (read_mt A6 (Nat.le_of_ble_eq_true rfl))) rfl ((wanted_of (b := false) rfl rfl rfl tV).trans rfl) ?_
      refine o_rd (r_fieldAddr Ty.fo51_4 tE) rfl ((wanted_of (b := false) rfl rfl rfl tV).trans rfl) ?_
      refine o_rd (r_load1 (v := .int .i64 (m[i].n)) Ty.agg3 tE (read_mt A7 (Nat.le_of_ble_eq_true rfl))) rfl ((wanted_of (b := false) rfl rfl rfl tV).trans rfl) ?_
      refine o_rd (r_ne (a := l[i].n) (b := m[i].n) tE tE) rfl ((wanted_of (b := false) rfl rfl rfl tV).trans rfl) ?_
      refine o_rd (r_pick (t := false) tE (fun h => by cases h) (fun _ => tE)) rfl rfl ?_
      refine o_mv ?_
      cases hg11 : (decide (l[i].n ≠ m[i].n) : Bool)
      ·have hg11 := dec_fn hg11
       refine o_rd (r_fieldAddr Ty.fo51_2 tE) rfl ((wanted_of (b := false) rfl rfl rfl tV).trans rfl) ?_
       refine o_rd (r_load1 (v := sk1) Ty.agg39 tE (read_mt A6 (Nat.le_of_ble_eq_true rfl))) rfl ((wanted_of (b := false) rfl rfl rfl tV).trans rfl) ?_
       refine o_rd (r_fieldAddr Ty.fo51_2 tE) rfl ((wanted_of (b := false) rfl rfl rfl tV).trans rfl) ?_
       refine o_rd (r_load1 (v := sk2) Ty.agg39 tE (read_mt A7 (Nat.le_of_ble_eq_true rfl))) rfl ((wanted_of (b := false) rfl rfl rfl tV).trans rfl) ?_
       refine o_cl rfl rfl tS rfl (numbers_fin ho W7 l[i].ks m[i].ks _ _ (hK1.ext E7) (hK2.ext E7)) rfl ((wanted_of (b := false) rfl rfl rfl tV).trans rfl) ?_; rintro _ H12 ⟨rfl, X12⟩
       have W12 := X12.wf; have E12 := E7.trans X12
       have A6 := X12.keep _ _ A6
       have A7 := X12.keep _ _ A7
       have n12 := X12.n
       refine o_rd (r_not tE) rfl ((wanted_of (b := false) rfl rfl rfl tV).trans rfl) ?_
       refine o_rd (r_pick (t := false) tE (fun h => by cases h) (fun _ => tE)) rfl rfl ?_
       refine o_nil ?_
       refine w_cond tE (fun hB13 => ?_) (fun hB13 => ?_)
       ·have hc13 := dec_f (not_t hB13)
        refine w_sr ?_
        refine o_as ?_
        refine o_nil ?_
        refine w_ret ⟨.inr rfl, rfl, .bool (false), (show resultA Try.prog [.tmp 6] _ = _ from tR), ?_⟩
        try dsimp only
        refine ⟨congrArg AV.bool (nodesB_f.2 ?_).symm, E12⟩; first | (rintro ⟨h1, h2⟩; omega) | (rintro ⟨h1, h2⟩; obtain ⟨q1, q2, q3, q4, q5⟩ := h2 i hi1 hi2; first | omega | (exact absurd q3 (by assumption)) | (exact absurd q5 (by assumption)) | (rcases q2 with q2 | q2 <;> first | omega | exact absurd (q2.symm.trans (by first | assumption | (exact not_t (by assumption)) : but = false)) (by decide)))
       ·have hc13 := dec_t (not_f hB13)
        refine w_skip ?_
        refine w_region ?_
        refine o_rd (r_addE (a := ((i : Nat) : Int)) (b := 1) (c := ((i + 1 : Nat) : Int)) tE tE (by omega) (by omega) (by omega)) rfl rfl ?_
        refine o_mv ?_
        refine o_nil ?_
        exact ⟨n - 1, (by omega), _, H12, i + 1, rfl, tV, tV, tV, tV, tV, tV, W12, E12, (by omega), (by intro j hj hj2 h; rcases Nat.lt_succ_iff_lt_or_eq.1 h with h | rfl; exact hall j hj hj2 h; exact ⟨by omega, by simp [hc1, hc3, hg8, hg9, hg10, hg11, hc13], by assumption, by omega, by assumption⟩)⟩
      ·have hg11 := dec_t hg11
       refine o_sk rfl ((wanted_of (b := true) rfl rfl rfl tV).trans rfl) ?_
       refine o_sk rfl ((wanted_of (b := true) rfl rfl rfl tV).trans rfl) ?_
       refine o_sk rfl ((wanted_of (b := true) rfl rfl rfl tV).trans rfl) ?_
       refine o_sk rfl ((wanted_of (b := true) rfl rfl rfl tV).trans rfl) ?_
       refine o_sk rfl ((wanted_of (b := true) rfl rfl rfl tV).trans rfl) ?_
       refine o_sk rfl ((wanted_of (b := true) rfl rfl rfl tV).trans rfl) ?_
       refine o_rd (r_pick (t := true) tE (fun _ => tE) (fun h => by cases h)) rfl rfl ?_
       refine o_nil ?_
       refine w_cond (t := true) tE (fun _ => ?_) (fun h => by cases h)
       refine w_sr ?_
       refine o_as ?_
       refine o_nil ?_
       refine w_ret ⟨.inr rfl, rfl, .bool (false), (show resultA Try.prog [.tmp 6] _ = _ from tR), ?_⟩
       try dsimp only
       refine ⟨congrArg AV.bool (nodesB_f.2 ?_).symm, E7⟩; first | (rintro ⟨h1, h2⟩; omega) | (rintro ⟨h1, h2⟩; obtain ⟨q1, q2, q3, q4, q5⟩ := h2 i hi1 hi2; first | omega | (exact absurd q3 (by assumption)) | (exact absurd q5 (by assumption)) | (rcases q2 with q2 | q2 <;> first | omega | exact absurd (q2.symm.trans (by first | assumption | (exact not_t (by assumption)) : but = false)) (by decide)))
     ·have hg10 := dec_f (not_t hg10)
      refine o_sk rfl ((wanted_of (b := true) rfl rfl rfl tV).trans rfl) ?_
      refine o_sk rfl ((wanted_of (b := true) rfl rfl rfl tV).trans rfl) ?_
      refine o_sk rfl ((wanted_of (b := true) rfl rfl rfl tV).trans rfl) ?_
      refine o_sk rfl ((wanted_of (b := true) rfl rfl rfl tV).trans rfl) ?_
      refine o_sk rfl ((wanted_of (b := true) rfl rfl rfl tV).trans rfl) ?_
      refine o_rd (r_pick (t := true) tE (fun _ => tE) (fun h => by cases h)) rfl rfl ?_
      refine o_mv ?_
      refine o_sk rfl ((wanted_of (b := true) rfl rfl rfl tV).trans rfl) ?_
      refine o_sk rfl ((wanted_of (b := true) rfl rfl rfl tV).trans rfl) ?_
      refine o_sk rfl ((wanted_of (b := true) rfl rfl rfl tV).trans rfl) ?_
      refine o_sk rfl ((wanted_of (b := true) rfl rfl rfl tV).trans rfl) ?_
      refine o_sk rfl ((wanted_of (b := true) rfl rfl rfl tV).trans rfl) ?_
      refine o_sk rfl ((wanted_of (b := true) rfl rfl rfl tV).trans rfl) ?_
      refine o_rd (r_pick (t := true) tE (fun _ => tE) (fun h => by cases h)) rfl rfl ?_
      refine o_nil ?_
      refine w_cond (t := true) tE (fun _ => ?_) (fun h => by cases h)
      refine w_sr ?_
      refine o_as ?_
      refine o_nil ?_
      refine w_ret ⟨.inr rfl, rfl, .bool (false), (show resultA Try.prog [.tmp 6] _ = _ from tR), ?_⟩
      try dsimp only
      refine ⟨congrArg AV.bool (nodesB_f.2 ?_).symm, E7⟩; first | (rintro ⟨h1, h2⟩; omega) | (rintro ⟨h1, h2⟩; obtain ⟨q1, q2, q3, q4, q5⟩ := h2 i hi1 hi2; first | omega | (exact absurd q3 (by assumption)) | (exact absurd q5 (by assumption)) | (rcases q2 with q2 | q2 <;> first | omega | exact absurd (q2.symm.trans (by first | assumption | (exact not_t (by assumption)) : but = false)) (by decide)))
    ·have hg9 := dec_t hg9
     refine o_rd (r_move tE) rfl ((wanted_of (b := true) rfl rfl rfl tV).trans rfl) ?_
     refine o_rd (r_not tE) rfl ((wanted_of (b := true) rfl rfl rfl tV).trans rfl) ?_
     refine o_rd (r_pick (t := true) tE (fun _ => tE) (fun h => by cases h)) rfl ((wanted_of (b := false) rfl rfl rfl tV).trans rfl) ?_
     refine o_rd (r_pick (t := false) tE (fun h => by cases h) (fun _ => tE)) rfl rfl ?_
     refine o_mv ?_
     cases hg14 : (!(but) : Bool)
     ·have hg14 := (not_f hg14)
      refine o_rd (r_fieldAddr Ty.fo51_3 tE) rfl ((wanted_of (b := false) rfl rfl rfl tV).trans rfl) ?_
      refine o_rd (r_load1 (v := .str (l[i].nm)) Ty.agg9 tE (read_mt A6 (Nat.le_of_ble_eq_true rfl))) rfl ((wanted_of (b := false) rfl rfl rfl tV).trans rfl) ?_
      refine o_rd (r_fieldAddr Ty.fo51_3 tE) rfl ((wanted_of (b := false) rfl rfl rfl tV).trans rfl) ?_
      refine o_rd (r_load1 (v := .str (m[i].nm)) Ty.agg9 tE (read_mt A7 (Nat.le_of_ble_eq_true rfl))) rfl ((wanted_of (b := false) rfl rfl rfl tV).trans rfl) ?_
      refine o_rd (r_neS (a := l[i].nm) (b := m[i].nm) Try.underlying9 tE tE) rfl ((wanted_of (b := false) rfl rfl rfl tV).trans rfl) ?_
      refine o_rd (r_pick (t := false) tE (fun h => by cases h) (fun _ => tE)) rfl rfl ?_
      refine o_mv ?_
      cases hg15 : (!decide (l[i].nm = m[i].nm) : Bool)
      ·have hg15 := dec_t (not_f hg15)
       refine o_rd (r_fieldAddr Ty.fo51_4 tE) rfl ((wanted_of (b := false) rfl rfl rfl tV).trans rfl) ?_
       refine o_rd (r_load1 (v := .int .i64 (l[i].n)) Ty.agg3 tE (read_mt A6 (Nat.le_of_ble_eq_true rfl))) rfl ((wanted_of (b := false) rfl rfl rfl tV).trans rfl) ?_
       refine o_rd (r_fieldAddr Ty.fo51_4 tE) rfl ((wanted_of (b := false) rfl rfl rfl tV).trans rfl) ?_
       refine o_rd (r_load1 (v := .int .i64 (m[i].n)) Ty.agg3 tE (read_mt A7 (Nat.le_of_ble_eq_true rfl))) rfl ((wanted_of (b := false) rfl rfl rfl tV).trans rfl) ?_
       refine o_rd (r_ne (a := l[i].n) (b := m[i].n) tE tE) rfl ((wanted_of (b := false) rfl rfl rfl tV).trans rfl) ?_
       refine o_rd (r_pick (t := false) tE (fun h => by cases h) (fun _ => tE)) rfl rfl ?_
       refine o_mv ?_
       cases hg16 : (decide (l[i].n ≠ m[i].n) : Bool)
       ·have hg16 := dec_fn hg16
        refine o_rd (r_fieldAddr Ty.fo51_2 tE) rfl ((wanted_of (b := false) rfl rfl rfl tV).trans rfl) ?_
        refine o_rd (r_load1 (v := sk1) Ty.agg39 tE (read_mt A6 (Nat.le_of_ble_eq_true rfl))) rfl ((wanted_of (b := false) rfl rfl rfl tV).trans rfl) ?_
        refine o_rd (r_fieldAddr Ty.fo51_2 tE) rfl ((wanted_of (b := false) rfl rfl rfl tV).trans rfl) ?_
        refine o_rd (r_load1 (v := sk2) Ty.agg39 tE (read_mt A7 (Nat.le_of_ble_eq_true rfl))) rfl ((wanted_of (b := false) rfl rfl rfl tV).trans rfl) ?_
        refine o_cl rfl rfl tS rfl (numbers_fin ho W7 l[i].ks m[i].ks _ _ (hK1.ext E7) (hK2.ext E7)) rfl ((wanted_of (b := false) rfl rfl rfl tV).trans rfl) ?_; rintro _ H17 ⟨rfl, X17⟩
        have W17 := X17.wf; have E17 := E7.trans X17
        have A6 := X17.keep _ _ A6
        have A7 := X17.keep _ _ A7
        have n17 := X17.n
        refine o_rd (r_not tE) rfl ((wanted_of (b := false) rfl rfl rfl tV).trans rfl) ?_
        refine o_rd (r_pick (t := false) tE (fun h => by cases h) (fun _ => tE)) rfl rfl ?_
        refine o_nil ?_
        refine w_cond tE (fun hB18 => ?_) (fun hB18 => ?_)
        ·have hc18 := dec_f (not_t hB18)
         refine w_sr ?_
         refine o_as ?_
         refine o_nil ?_
         refine w_ret ⟨.inr rfl, rfl, .bool (false), (show resultA Try.prog [.tmp 6] _ = _ from tR), ?_⟩
         try dsimp only
         refine ⟨congrArg AV.bool (nodesB_f.2 ?_).symm, E17⟩; first | (rintro ⟨h1, h2⟩; omega) | (rintro ⟨h1, h2⟩; obtain ⟨q1, q2, q3, q4, q5⟩ := h2 i hi1 hi2; first | omega | (exact absurd q3 (by assumption)) | (exact absurd q5 (by assumption)) | (rcases q2 with q2 | q2 <;> first | omega | exact absurd (q2.symm.trans (by first | assumption | (exact not_t (by assumption)) : but = false)) (by decide)))
        ·have hc18 := dec_t (not_f hB18)
         refine w_skip ?_
         refine w_region ?_
         refine o_rd (r_addE (a := ((i : Nat) : Int)) (b := 1) (c := ((i + 1 : Nat) : Int)) tE tE (by omega) (by omega) (by omega)) rfl rfl ?_
         refine o_mv ?_
         refine o_nil ?_
         exact ⟨n - 1, (by omega), _, H17, i + 1, rfl, tV, tV, tV, tV, tV, tV, W17, E17, (by omega), (by intro j hj hj2 h; rcases Nat.lt_succ_iff_lt_or_eq.1 h with h | rfl; exact hall j hj hj2 h; exact ⟨by omega, by simp [hc1, hc3, hg8, hg9, hg14, hg15, hg16, hc18], by assumption, by omega, by assumption⟩)⟩
       ·have hg16 := dec_t hg16
        refine o_sk rfl ((wanted_of (b := true) rfl rfl rfl tV).trans rfl) ?_
        refine o_sk rfl ((wanted_of (b := true) rfl rfl rfl tV).trans rfl) ?_
        refine o_sk rfl ((wanted_of (b := true) rfl rfl rfl tV).trans rfl) ?_
        refine o_sk rfl ((wanted_of (b := true) rfl rfl rfl tV).trans rfl) ?_
        refine o_sk rfl ((wanted_of (b := true) rfl rfl rfl tV).trans rfl) ?_
        refine o_sk rfl ((wanted_of (b := true) rfl rfl rfl tV).trans rfl) ?_
        refine o_rd (r_pick (t := true) tE (fun _ => tE) (fun h => by cases h)) rfl rfl ?_
        refine o_nil ?_
        refine w_cond (t := true) tE (fun _ => ?_) (fun h => by cases h)
        refine w_sr ?_
        refine o_as ?_
        refine o_nil ?_
        refine w_ret ⟨.inr rfl, rfl, .bool (false), (show resultA Try.prog [.tmp 6] _ = _ from tR), ?_⟩
        try dsimp only
        refine ⟨congrArg AV.bool (nodesB_f.2 ?_).symm, E7⟩; first | (rintro ⟨h1, h2⟩; omega) | (rintro ⟨h1, h2⟩; obtain ⟨q1, q2, q3, q4, q5⟩ := h2 i hi1 hi2; first | omega | (exact absurd q3 (by assumption)) | (exact absurd q5 (by assumption)) | (rcases q2 with q2 | q2 <;> first | omega | exact absurd (q2.symm.trans (by first | assumption | (exact not_t (by assumption)) : but = false)) (by decide)))
      ·have hg15 := dec_f (not_t hg15)
       refine o_sk rfl ((wanted_of (b := true) rfl rfl rfl tV).trans rfl) ?_
       refine o_sk rfl ((wanted_of (b := true) rfl rfl rfl tV).trans rfl) ?_
       refine o_sk rfl ((wanted_of (b := true) rfl rfl rfl tV).trans rfl) ?_
       refine o_sk rfl ((wanted_of (b := true) rfl rfl rfl tV).trans rfl) ?_
       refine o_sk rfl ((wanted_of (b := true) rfl rfl rfl tV).trans rfl) ?_
       refine o_rd (r_pick (t := true) tE (fun _ => tE) (fun h => by cases h)) rfl rfl ?_
       refine o_mv ?_
       refine o_sk rfl ((wanted_of (b := true) rfl rfl rfl tV).trans rfl) ?_
       refine o_sk rfl ((wanted_of (b := true) rfl rfl rfl tV).trans rfl) ?_
       refine o_sk rfl ((wanted_of (b := true) rfl rfl rfl tV).trans rfl) ?_
       refine o_sk rfl ((wanted_of (b := true) rfl rfl rfl tV).trans rfl) ?_
       refine o_sk rfl ((wanted_of (b := true) rfl rfl rfl tV).trans rfl) ?_
       refine o_sk rfl ((wanted_of (b := true) rfl rfl rfl tV).trans rfl) ?_
       refine o_rd (r_pick (t := true) tE (fun _ => tE) (fun h => by cases h)) rfl rfl ?_
       refine o_nil ?_
       refine w_cond (t := true) tE (fun _ => ?_) (fun h => by cases h)
       refine w_sr ?_
       refine o_as ?_
       refine o_nil ?_
       refine w_ret ⟨.inr rfl, rfl, .bool (false), (show resultA Try.prog [.tmp 6] _ = _ from tR), ?_⟩
       try dsimp only
       refine ⟨congrArg AV.bool (nodesB_f.2 ?_).symm, E7⟩; first | (rintro ⟨h1, h2⟩; omega) | (rintro ⟨h1, h2⟩; obtain ⟨q1, q2, q3, q4, q5⟩ := h2 i hi1 hi2; first | omega | (exact absurd q3 (by assumption)) | (exact absurd q5 (by assumption)) | (rcases q2 with q2 | q2 <;> first | omega | exact absurd (q2.symm.trans (by first | assumption | (exact not_t (by assumption)) : but = false)) (by decide)))
     ·have hg14 := (not_t hg14)
      refine o_sk rfl ((wanted_of (b := true) rfl rfl rfl tV).trans rfl) ?_
      refine o_sk rfl ((wanted_of (b := true) rfl rfl rfl tV).trans rfl) ?_
      refine o_sk rfl ((wanted_of (b := true) rfl rfl rfl tV).trans rfl) ?_
      refine o_sk rfl ((wanted_of (b := true) rfl rfl rfl tV).trans rfl) ?_
      refine o_sk rfl ((wanted_of (b := true) rfl rfl rfl tV).trans rfl) ?_
      refine o_rd (r_pick (t := true) tE (fun _ => tE) (fun h => by cases h)) rfl rfl ?_
      refine o_mv ?_
      refine o_sk rfl ((wanted_of (b := true) rfl rfl rfl tV).trans rfl) ?_
      refine o_sk rfl ((wanted_of (b := true) rfl rfl rfl tV).trans rfl) ?_
      refine o_sk rfl ((wanted_of (b := true) rfl rfl rfl tV).trans rfl) ?_
      refine o_sk rfl ((wanted_of (b := true) rfl rfl rfl tV).trans rfl) ?_
      refine o_sk rfl ((wanted_of (b := true) rfl rfl rfl tV).trans rfl) ?_
      refine o_rd (r_pick (t := true) tE (fun _ => tE) (fun h => by cases h)) rfl rfl ?_
      refine o_mv ?_
      refine o_sk rfl ((wanted_of (b := true) rfl rfl rfl tV).trans rfl) ?_
      refine o_sk rfl ((wanted_of (b := true) rfl rfl rfl tV).trans rfl) ?_
      refine o_sk rfl ((wanted_of (b := true) rfl rfl rfl tV).trans rfl) ?_
      refine o_sk rfl ((wanted_of (b := true) rfl rfl rfl tV).trans rfl) ?_
      refine o_sk rfl ((wanted_of (b := true) rfl rfl rfl tV).trans rfl) ?_
      refine o_sk rfl ((wanted_of (b := true) rfl rfl rfl tV).trans rfl) ?_
      refine o_rd (r_pick (t := true) tE (fun _ => tE) (fun h => by cases h)) rfl rfl ?_
      refine o_nil ?_
      refine w_cond (t := true) tE (fun _ => ?_) (fun h => by cases h)
      refine w_sr ?_
      refine o_as ?_
      refine o_nil ?_
      refine w_ret ⟨.inr rfl, rfl, .bool (false), (show resultA Try.prog [.tmp 6] _ = _ from tR), ?_⟩
      try dsimp only
      refine ⟨congrArg AV.bool (nodesB_f.2 ?_).symm, E7⟩; first | (rintro ⟨h1, h2⟩; omega) | (rintro ⟨h1, h2⟩; obtain ⟨q1, q2, q3, q4, q5⟩ := h2 i hi1 hi2; first | omega | (exact absurd q3 (by assumption)) | (exact absurd q5 (by assumption)) | (rcases q2 with q2 | q2 <;> first | omega | exact absurd (q2.symm.trans (by first | assumption | (exact not_t (by assumption)) : but = false)) (by decide)))
   ·have hg8 := dec_t hg8
    refine o_sk rfl ((wanted_of (b := true) rfl rfl rfl tV).trans rfl) ?_
    refine o_sk rfl ((wanted_of (b := true) rfl rfl rfl tV).trans rfl) ?_
    refine o_sk rfl ((wanted_of (b := true) rfl rfl rfl tV).trans rfl) ?_
    refine o_sk rfl ((wanted_of (b := true) rfl rfl rfl tV).trans rfl) ?_
    refine o_sk rfl ((wanted_of (b := true) rfl rfl rfl tV).trans rfl) ?_
    refine o_sk rfl ((wanted_of (b := true) rfl rfl rfl tV).trans rfl) ?_
    refine o_sk rfl (wanted_no rfl rfl rfl tV) ?_
    refine o_sk rfl (wanted_no rfl rfl rfl tV) ?_
    refine o_sk rfl ((wanted_of (b := true) rfl rfl rfl tV).trans rfl) ?_
    refine o_rd (r_pick (t := true) tE (fun _ => tE) (fun h => by cases h)) rfl rfl ?_
    refine o_mv ?_
    refine o_sk rfl ((wanted_of (b := true) rfl rfl rfl tV).trans rfl) ?_
    refine o_sk rfl ((wanted_of (b := true) rfl rfl rfl tV).trans rfl) ?_
    refine o_sk rfl ((wanted_of (b := true) rfl rfl rfl tV).trans rfl) ?_
    refine o_sk rfl ((wanted_of (b := true) rfl rfl rfl tV).trans rfl) ?_
    refine o_sk rfl ((wanted_of (b := true) rfl rfl rfl tV).trans rfl) ?_
    refine o_rd (r_pick (t := true) tE (fun _ => tE) (fun h => by cases h)) rfl rfl ?_
    refine o_mv ?_
    refine o_sk rfl ((wanted_of (b := true) rfl rfl rfl tV).trans rfl) ?_
    refine o_sk rfl ((wanted_of (b := true) rfl rfl rfl tV).trans rfl) ?_
    refine o_sk rfl ((wanted_of (b := true) rfl rfl rfl tV).trans rfl) ?_
    refine o_sk rfl ((wanted_of (b := true) rfl rfl rfl tV).trans rfl) ?_
    refine o_sk rfl ((wanted_of (b := true) rfl rfl rfl tV).trans rfl) ?_
    refine o_rd (r_pick (t := true) tE (fun _ => tE) (fun h => by cases h)) rfl rfl ?_
    refine o_mv ?_
    refine o_sk rfl ((wanted_of (b := true) rfl rfl rfl tV).trans rfl) ?_
    refine o_sk rfl ((wanted_of (b := true) rfl rfl rfl tV).trans rfl) ?_
    refine o_sk rfl ((wanted_of (b := true) rfl rfl rfl tV).trans rfl) ?_
    refine o_sk rfl ((wanted_of (b := true) rfl rfl rfl tV).trans rfl) ?_
    refine o_sk rfl ((wanted_of (b := true) rfl rfl rfl tV).trans rfl) ?_
    refine o_sk rfl ((wanted_of (b := true) rfl rfl rfl tV).trans rfl) ?_
    refine o_rd (r_pick (t := true) tE (fun _ => tE) (fun h => by cases h)) rfl rfl ?_
    refine o_nil ?_
    refine w_cond (t := true) tE (fun _ => ?_) (fun h => by cases h)
    refine w_sr ?_
    refine o_as ?_
    refine o_nil ?_
    refine w_ret ⟨.inr rfl, rfl, .bool (false), (show resultA Try.prog [.tmp 6] _ = _ from tR), ?_⟩
    try dsimp only
    refine ⟨congrArg AV.bool (nodesB_f.2 ?_).symm, E7⟩; first | (rintro ⟨h1, h2⟩; omega) | (rintro ⟨h1, h2⟩; obtain ⟨q1, q2, q3, q4, q5⟩ := h2 i hi1 hi2; first | omega | (exact absurd q3 (by assumption)) | (exact absurd q5 (by assumption)) | (rcases q2 with q2 | q2 <;> first | omega | exact absurd (q2.symm.trans (by first | assumption | (exact not_t (by assumption)) : but = false)) (by decide)))
  ·have hc3 := dec_f hB3
   first | refine w_exit (blk_exit ?_) | refine w_exit (show (0 = 0 → _) ∧ (0 ≠ 0 → _) from ⟨fun _ => ?_, fun c => absurd rfl c⟩)
   refine w_sr ?_
   refine o_as ?_
   refine o_nil ?_
   refine w_ret ⟨.inr rfl, rfl, .bool (true), (show resultA Try.prog [.tmp 6] _ = _ from tR), ?_⟩
   try dsimp only
   exact ⟨congrArg AV.bool (nodesB_t.2 ⟨by omega, fun j hj hj2 => hall j hj hj2 (by omega)⟩).symm, E2⟩
end Go.Proofs.Ytehmhhlhlipbnaa.Vs
