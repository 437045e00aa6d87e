/-
 The scanner: bytes, runs, the kinds of texts.
-/
import Derived.Test.YtehmhhlhlipbnaaTy
import Derived.Test.YtehmhhlhlipbnaaVjT
import Derived.Test.YtehmhhlhlipbnaaVjK
set_option autoImplicit false
set_option linter.unusedVariables false
set_option linter.unusedSimpArgs false
set_option maxRecDepth 100000
set_option maxHeartbeats 4000000
namespace Go.Proofs.Ytehmhhlhlipbnaa.Vs
open Go.VI Go.Proofs
variable {orc : CallF}
def letP (x : Int) : Prop := (97 ≤ x ∧ x ≤ 122) ∨ (65 ≤ x ∧ x ≤ 90) ∨ x = 95
instance (x : Int) : Decidable (letP x) := by unfold letP; infer_instance
def digP (x : Int) : Prop := 48 ≤ x ∧ x ≤ 57
instance (x : Int) : Decidable (digP x) := by unfold digP; infer_instance
def blaP (x : Int) : Prop := x = 9 ∨ x = 10 ∨ x = 13 ∨ x = 32
instance (x : Int) : Decidable (blaP x) := by unfold blaP; infer_instance
def isLet (c : UInt8) : Bool := decide (letP (c.toNat : Int))
def isDig (c : UInt8) : Bool := decide (digP (c.toNat : Int))
def isBla (c : UInt8) : Bool := decide (blaP (c.toNat : Int))
def isWor (c : UInt8) : Bool := isLet c || isDig c
def isRem (c : UInt8) : Bool := decide ((c.toNat : Int) ≠ 10)
/-- how many bytes there are, from the first on, that are as a function says -/
def runF (p : UInt8 → Bool) : List UInt8 → Nat
 | [] => 0
 | c :: r => if p c then runF p r + 1 else 0
theorem runF_le (p : UInt8 → Bool) : ∀ l, runF p l ≤ l.length
 | [] => Nat.le_refl _
 | c :: r => by simp only [runF]; split <;> simp <;> exact runF_le p r
theorem runF_at {p : UInt8 → Bool} : ∀ {l : List UInt8} {n : Nat}, n ≤ l.length → (∀ j, (h : j < l.length) → j < n → p l[j] = true) → (∀ h : n < l.length, p l[n] = false) → runF p l = n
 | [], n, h, _, _ => by simp at h; subst h; rfl
 | c :: r, 0, _, _, h2 => by
  have := h2 (by simp)
  simp only [List.getElem_cons_zero] at this
  simp [runF, this]
 | c :: r, n + 1, h, h1, h2 => by
  have h0 := h1 0 (by simp) (by omega)
  simp only [List.getElem_cons_zero] at h0
  simp only [runF, h0, if_true]
  rw [runF_at (n := n) (by simpa using h) (fun j hj hn => by have := h1 (j + 1) (by simpa using hj) (by omega); simpa using this) (fun hn => by have := h2 (by simpa using hn); simpa using this)]
theorem runF_pos {p : UInt8 → Bool} {l : List UInt8} (h : 0 < l.length) (hp : p l[0] = true) : 0 < runF p l := by
 cases l with
 | nil => simp at h
 | cons c r => simp only [List.getElem_cons_zero] at hp; simp [runF, hp]
/-- the kind of a keyword or a sign, by the texts of the kinds -/
def kindF (tx : Nat → List UInt8) (s : List UInt8) : Int := if s = [] then 0 else match (List.range 67).find? (fun k => decide (tx k = s)) with | some k => (k : Int) | none => 0
theorem kindF_at {tx : Nat → List UInt8} {s : List UInt8} {k : Nat} (hs : ¬ s = []) (hk : k < 67) (h : ∀ j, j < k → ¬ tx j = s) (he : tx k = s) : kindF tx s = (k : Int) := by
 unfold kindF
 rw [if_neg hs]
 have : (List.range 67).find? (fun k => decide (tx k = s)) = some k := by
  rw [List.find?_eq_some_iff_getElem]
  refine ⟨by simp [he], k, by simpa using hk, by simp, fun j hj => ?_⟩
  simp [h j hj]
 rw [this]
theorem kindF_no {tx : Nat → List UInt8} {s : List UInt8} (hs : ¬ s = []) (h : ∀ j, j < 67 → ¬ tx j = s) : kindF tx s = 0 := by
 unfold kindF
 rw [if_neg hs]
 have : (List.range 67).find? (fun k => decide (tx k = s)) = none := by
  rw [List.find?_eq_none]
  intro x hx
  simp [h x (List.mem_range.1 hx)]
 rw [this]
theorem letter_fin (ho : NoOrcBut [7, 21, 69, 81] orc) {H0 : AH} (W0 : Wf H0) (x : Int) : Fin Try.prog orc 31 [.int .u8 (x)] H0 (fun r H' => r = .bool (decide (letP x)) ∧ Ext H0 H') := by
 have E0 := Ext.refl W0
 refine fin_of Try.func31 rfl (by rw [Try.ntmps31]; simp) (ho _ rfl _ _) ?_
 rw [Try.ntmps31]
 refine w_sr ?_
 refine o_as ?_
 refine o_nil ?_
 refine w_sr ?_
 refine o_mv ?_
 refine o_rd (r_ge (a := x) (b := 97) tE tE) rfl rfl ?_
 refine o_mv ?_
 cases hg1 : (decide (97 ≤ x) : Bool)
 ·have hg1 := dec_f hg1
  refine o_sk rfl ((wanted_of (b := false) rfl rfl rfl tV).trans rfl) ?_
  refine o_sk rfl ((wanted_of (b := false) rfl rfl rfl tV).trans rfl) ?_
  refine o_rd (r_pick (t := false) tE (fun h => by cases h) (fun _ => tE)) rfl rfl ?_
  refine o_mv ?_
  refine o_rd (r_move tE) rfl ((wanted_of (b := false) rfl rfl rfl tV).trans rfl) ?_
  refine o_rd (r_ge (a := x) (b := 65) tE tE) rfl ((wanted_of (b := false) rfl rfl rfl tV).trans rfl) ?_
  refine o_rd (r_move tE) rfl ((wanted_of (b := false) rfl rfl rfl tV).trans rfl) ?_
  cases hg2 : (decide (65 ≤ x) : Bool)
  ·have hg2 := dec_f hg2
   refine o_sk rfl ((wanted_of (b := false) rfl rfl rfl tV).trans rfl) ?_
   refine o_sk rfl ((wanted_of (b := false) rfl rfl rfl tV).trans rfl) ?_
   refine o_rd (r_pick (t := false) tE (fun h => by cases h) (fun _ => tE)) rfl ((wanted_of (b := false) rfl rfl rfl tV).trans rfl) ?_
   refine o_rd (r_pick (t := false) tE (fun h => by cases h) (fun _ => tE)) rfl rfl ?_
   refine o_mv ?_
   refine o_rd (r_move tE) rfl ((wanted_of (b := false) rfl rfl rfl tV).trans rfl) ?_
   refine o_rd (r_eq (a := x) (b := 95) tE tE) rfl ((wanted_of (b := false) rfl rfl rfl tV).trans rfl) ?_
   refine o_rd (r_pick (t := false) tE (fun h => by cases h) (fun _ => tE)) rfl rfl ?_
   refine o_as ?_
   refine o_nil ?_
   refine w_ret ⟨.inr rfl, rfl, .bool (decide (x = 95)), (show resultA Try.prog [.tmp 2] _ = _ from tR), ?_⟩
   try dsimp only
   refine ⟨congrArg AV.bool ?_, E0⟩; first | (exact Eq.symm (decide_eq_true (by unfold letP; omega))) | (exact Eq.symm (decide_eq_false (by unfold letP; omega))) | (rw [Bool.eq_iff_iff]; simp only [decide_eq_true_eq, Bool.false_eq_true, false_iff, true_iff]; unfold letP; omega)
  ·have hg2 := dec_t hg2
   refine o_rd (r_move tE) rfl ((wanted_of (b := true) rfl rfl rfl tV).trans rfl) ?_
   refine o_rd (r_le (a := x) (b := 90) tE tE) rfl ((wanted_of (b := true) rfl rfl rfl tV).trans rfl) ?_
   refine o_rd (r_pick (t := true) tE (fun _ => tE) (fun h => by cases h)) rfl ((wanted_of (b := false) rfl rfl rfl tV).trans rfl) ?_
   refine o_rd (r_pick (t := false) tE (fun h => by cases h) (fun _ => tE)) rfl rfl ?_
   refine o_mv ?_
   cases hg3 : (decide (x ≤ 90) : Bool)
   ·have hg3 := dec_f hg3
    refine o_rd (r_move tE) rfl ((wanted_of (b := false) rfl rfl rfl tV).trans rfl) ?_
    refine o_rd (r_eq (a := x) (b := 95) tE tE) rfl ((wanted_of (b := false) rfl rfl rfl tV).trans rfl) ?_
    refine o_rd (r_pick (t := false) tE (fun h => by cases h) (fun _ => tE)) rfl rfl ?_
    refine o_as ?_
    refine o_nil ?_
    refine w_ret ⟨.inr rfl, rfl, .bool (decide (x = 95)), (show resultA Try.prog [.tmp 2] _ = _ from tR), ?_⟩
    try dsimp only
    refine ⟨congrArg AV.bool ?_, E0⟩; first | (exact Eq.symm (decide_eq_true (by unfold letP; omega))) | (exact Eq.symm (decide_eq_false (by unfold letP; omega))) | (rw [Bool.eq_iff_iff]; simp only [decide_eq_true_eq, Bool.false_eq_true, false_iff, true_iff]; unfold letP; omega)
   ·have hg3 := dec_t hg3
    refine o_sk rfl ((wanted_of (b := true) rfl rfl rfl tV).trans rfl) ?_
    refine o_sk rfl ((wanted_of (b := true) rfl rfl rfl tV).trans rfl) ?_
    refine o_rd (r_pick (t := true) tE (fun _ => tE) (fun h => by cases h)) rfl rfl ?_
    refine o_as ?_
    refine o_nil ?_
    refine w_ret ⟨.inr rfl, rfl, .bool (true), (show resultA Try.prog [.tmp 2] _ = _ from tR), ?_⟩
    try dsimp only
    refine ⟨congrArg AV.bool ?_, E0⟩; first | (exact Eq.symm (decide_eq_true (by unfold letP; omega))) | (exact Eq.symm (decide_eq_false (by unfold letP; omega))) | (rw [Bool.eq_iff_iff]; simp only [decide_eq_true_eq, Bool.false_eq_true, false_iff, true_iff]; unfold letP; omega)
 ·have hg1 := dec_t hg1
  refine o_rd (r_move tE) rfl ((wanted_of (b := true) rfl rfl rfl tV).trans rfl) ?_
  refine o_rd (r_le (a := x) (b := 122) tE tE) rfl ((wanted_of (b := true) rfl rfl rfl tV).trans rfl) ?_
  refine o_rd (r_pick (t := true) tE (fun _ => tE) (fun h => by cases h)) rfl rfl ?_
  refine o_mv ?_
  cases hg4 : (decide (x ≤ 122) : Bool)
  ·have hg4 := dec_f hg4
   refine o_rd (r_move tE) rfl ((wanted_of (b := false) rfl rfl rfl tV).trans rfl) ?_
   refine o_rd (r_ge (a := x) (b := 65) tE tE) rfl ((wanted_of (b := false) rfl rfl rfl tV).trans rfl) ?_
   refine o_rd (r_move tE) rfl ((wanted_of (b := false) rfl rfl rfl tV).trans rfl) ?_
   cases hg5 : (decide (65 ≤ x) : Bool)
   ·have hg5 := dec_f hg5
    refine o_sk rfl ((wanted_of (b := false) rfl rfl rfl tV).trans rfl) ?_
    refine o_sk rfl ((wanted_of (b := false) rfl rfl rfl tV).trans rfl) ?_
    refine o_rd (r_pick (t := false) tE (fun h => by cases h) (fun _ => tE)) rfl ((wanted_of (b := false) rfl rfl rfl tV).trans rfl) ?_
    refine o_rd (r_pick (t := false) tE (fun h => by cases h) (fun _ => tE)) rfl rfl ?_
    refine o_mv ?_
    refine o_rd (r_move tE) rfl ((wanted_of (b := false) rfl rfl rfl tV).trans rfl) ?_
    refine o_rd (r_eq (a := x) (b := 95) tE tE) rfl ((wanted_of (b := false) rfl rfl rfl tV).trans rfl) ?_
    refine o_rd (r_pick (t := false) tE (fun h => by cases h) (fun _ => tE)) rfl rfl ?_
    refine o_as ?_
    refine o_nil ?_
    refine w_ret ⟨.inr rfl, rfl, .bool (decide (x = 95)), (show resultA Try.prog [.tmp 2] _ = _ from tR), ?_⟩
    try dsimp only
    refine ⟨congrArg AV.bool ?_, E0⟩; first | (exact Eq.symm (decide_eq_true (by unfold letP; omega))) | (exact Eq.symm (decide_eq_false (by unfold letP; omega))) | (rw [Bool.eq_iff_iff]; simp only [decide_eq_true_eq, Bool.false_eq_true, false_iff, true_iff]; unfold letP; omega)
   ·have hg5 := dec_t hg5
    refine o_rd (r_move tE) rfl ((wanted_of (b := true) rfl rfl rfl tV).trans rfl) ?_
    refine o_rd (r_le (a := x) (b := 90) tE tE) rfl ((wanted_of (b := true) rfl rfl rfl tV).trans rfl) ?_
    refine o_rd (r_pick (t := true) tE (fun _ => tE) (fun h => by cases h)) rfl ((wanted_of (b := false) rfl rfl rfl tV).trans rfl) ?_
    refine o_rd (r_pick (t := false) tE (fun h => by cases h) (fun _ => tE)) rfl rfl ?_
    refine o_mv ?_
    cases hg6 : (decide (x ≤ 90) : Bool)
    ·have hg6 := dec_f hg6
     refine o_rd (r_move tE) rfl ((wanted_of (b := false) rfl rfl rfl tV).trans rfl) ?_
     refine o_rd (r_eq (a := x) (b := 95) tE tE) rfl ((wanted_of (b := false) rfl rfl rfl tV).trans rfl) ?_
     refine o_rd (r_pick (t := false) tE (fun h => by cases h) (fun _ => tE)) rfl rfl ?_
     refine o_as ?_
     refine o_nil ?_
     refine w_ret ⟨.inr rfl, rfl, .bool (decide (x = 95)), (show resultA Try.prog [.tmp 2] _ = _ from tR), ?_⟩
     try dsimp only
     refine ⟨congrArg AV.bool ?_, E0⟩; first | (exact Eq.symm (decide_eq_true (by unfold letP; omega))) | (exact Eq.symm (decide_eq_false (by unfold letP; omega))) | (rw [Bool.eq_iff_iff]; simp only [decide_eq_true_eq, Bool.false_eq_true, false_iff, true_iff]; unfold letP; omega)
    ·have hg6 := dec_t hg6
     refine o_sk rfl ((wanted_of (b := true) rfl rfl rfl tV).trans rfl) ?_
     refine o_sk rfl ((wanted_of (b := true) rfl rfl rfl tV).trans rfl) ?_
     refine o_rd (r_pick (t := true) tE (fun _ => tE) (fun h => by cases h)) rfl rfl ?_
     refine o_as ?_
     refine o_nil ?_
     refine w_ret ⟨.inr rfl, rfl, .bool (true), (show resultA Try.prog [.tmp 2] _ = _ from tR), ?_⟩
     try dsimp only
     refine ⟨congrArg AV.bool ?_, E0⟩; first | (exact Eq.symm (decide_eq_true (by unfold letP; omega))) | (exact Eq.symm (decide_eq_false (by unfold letP; omega))) | (rw [Bool.eq_iff_iff]; simp only [decide_eq_true_eq, Bool.false_eq_true, false_iff, true_iff]; unfold letP; omega)
  ·have hg4 := dec_t hg4
   refine o_sk rfl ((wanted_of (b := true) rfl rfl rfl tV).trans rfl) ?_
   refine o_sk rfl ((wanted_of (b := true) rfl rfl rfl tV).trans rfl) ?_
   refine o_sk rfl ((wanted_of (b := true) rfl rfl rfl tV).trans rfl) ?_
   refine o_sk rfl (wanted_no rfl rfl rfl tV) ?_
   refine o_sk rfl (wanted_no rfl rfl rfl tV) ?_
   refine o_sk rfl ((wanted_of (b := true) rfl rfl rfl tV).trans rfl) ?_
   refine o_rd (r_pick (t := true) tE (fun _ => tE) (fun h => by cases h)) rfl rfl ?_
   refine o_mv ?_
   refine o_sk rfl ((wanted_of (b := true) rfl rfl rfl tV).trans rfl) ?_
   refine o_sk rfl ((wanted_of (b := true) rfl rfl rfl tV).trans rfl) ?_
   refine o_rd (r_pick (t := true) tE (fun _ => tE) (fun h => by cases h)) rfl rfl ?_
   refine o_as ?_
   refine o_nil ?_
   refine w_ret ⟨.inr rfl, rfl, .bool (true), (show resultA Try.prog [.tmp 2] _ = _ from tR), ?_⟩
   try dsimp only
   refine ⟨congrArg AV.bool ?_, E0⟩; first | (exact Eq.symm (decide_eq_true (by unfold letP; omega))) | (exact Eq.symm (decide_eq_false (by unfold letP; omega))) | (rw [Bool.eq_iff_iff]; simp only [decide_eq_true_eq, Bool.false_eq_true, false_iff, true_iff]; unfold letP; omega)
theorem digit_fin (ho : NoOrcBut [7, 21, 69, 81] orc) {H0 : AH} (W0 : Wf H0) (x : Int) : Fin Try.prog orc 33 [.int .u8 (x)] H0 (fun r H' => r = .bool (decide (digP x)) ∧ Ext H0 H') := by
 have E0 := Ext.refl W0
 refine fin_of Try.func33 rfl (by rw [Try.ntmps33]; simp) (ho _ rfl _ _) ?_
 rw [Try.ntmps33]
 refine w_sr ?_
 refine o_as ?_
 refine o_nil ?_
 refine w_sr ?_
 refine o_mv ?_
 refine o_rd (r_ge (a := x) (b := 48) tE tE) rfl rfl ?_
 refine o_mv ?_
 cases hg1 : (decide (48 ≤ x) : Bool)
 ·have hg1 := dec_f hg1
  refine o_sk rfl ((wanted_of (b := false) rfl rfl rfl tV).trans rfl) ?_
  refine o_sk rfl ((wanted_of (b := false) rfl rfl rfl tV).trans rfl) ?_
  refine o_rd (r_pick (t := false) tE (fun h => by cases h) (fun _ => tE)) rfl rfl ?_
  refine o_as ?_
  refine o_nil ?_
  refine w_ret ⟨.inr rfl, rfl, .bool (false), (show resultA Try.prog [.tmp 2] _ = _ from tR), ?_⟩
  try dsimp only
  refine ⟨congrArg AV.bool ?_, E0⟩; first | (exact Eq.symm (decide_eq_true (by unfold digP; omega))) | (exact Eq.symm (decide_eq_false (by unfold digP; omega))) | (rw [Bool.eq_iff_iff]; simp only [decide_eq_true_eq, Bool.false_eq_true, false_iff, true_iff]; unfold digP; omega)
 ·have hg1 := dec_t hg1
  refine o_rd (r_move tE) rfl ((wanted_of (b := true) rfl rfl rfl tV).trans rfl) ?_
  refine o_rd (r_le (a := x) (b := 57) tE tE) rfl ((wanted_of (b := true) rfl rfl rfl tV).trans rfl) ?_
  refine o_rd (r_pick (t := true) tE (fun _ => tE) (fun h => by cases h)) rfl rfl ?_
  refine o_as ?_
  refine o_nil ?_
  refine w_ret ⟨.inr rfl, rfl, .bool (decide (x ≤ 57)), (show resultA Try.prog [.tmp 2] _ = _ from tR), ?_⟩
  try dsimp only
  refine ⟨congrArg AV.bool ?_, E0⟩; first | (exact Eq.symm (decide_eq_true (by unfold digP; omega))) | (exact Eq.symm (decide_eq_false (by unfold digP; omega))) | (rw [Bool.eq_iff_iff]; simp only [decide_eq_true_eq, Bool.false_eq_true, false_iff, true_iff]; unfold digP; omega)
theorem blank_fin (ho : NoOrcBut [7, 21, 69, 81] orc) {H0 : AH} (W0 : Wf H0) (x : Int) : Fin Try.prog orc 22 [.int .u8 (x)] H0 (fun r H' => r = .bool (decide (blaP x)) ∧ Ext H0 H') := by
 have E0 := Ext.refl W0
 refine fin_of Try.func22 rfl (by rw [Try.ntmps22]; simp) (ho _ rfl _ _) ?_
 rw [Try.ntmps22]
 refine w_sr ?_
 refine o_as ?_
 refine o_nil ?_
 refine w_sr ?_
 refine o_mv ?_
 refine o_rd (r_eq (a := x) (b := 9) tE tE) rfl rfl ?_
 refine o_mv ?_
 cases hg1 : (decide (x = 9) : Bool)
 ·have hg1 := dec_f hg1
  refine o_rd (r_move tE) rfl ((wanted_of (b := false) rfl rfl rfl tV).trans rfl) ?_
  refine o_rd (r_eq (a := x) (b := 10) tE tE) rfl ((wanted_of (b := false) rfl rfl rfl tV).trans rfl) ?_
  refine o_rd (r_pick (t := false) tE (fun h => by cases h) (fun _ => tE)) rfl rfl ?_
  refine o_mv ?_
  cases hg2 : (decide (x = 10) : Bool)
  ·have hg2 := dec_f hg2
   refine o_rd (r_move tE) rfl ((wanted_of (b := false) rfl rfl rfl tV).trans rfl) ?_
   refine o_rd (r_eq (a := x) (b := 13) tE tE) rfl ((wanted_of (b := false) rfl rfl rfl tV).trans rfl) ?_
   refine o_rd (r_pick (t := false) tE (fun h => by cases h) (fun _ => tE)) rfl rfl ?_
   refine o_mv ?_
   cases hg3 : (decide (x = 13) : Bool)
   ·have hg3 := dec_f hg3
    refine o_rd (r_move tE) rfl ((wanted_of (b := false) rfl rfl rfl tV).trans rfl) ?_
    refine o_rd (r_eq (a := x) (b := 32) tE tE) rfl ((wanted_of (b := false) rfl rfl rfl tV).trans rfl) ?_
    refine o_rd (r_pick (t := false) tE (fun h => by cases h) (fun _ => tE)) rfl rfl ?_
    refine o_as ?_
    refine o_nil ?_
    refine w_ret ⟨.inr rfl, rfl, .bool (decide (x = 32)), (show resultA Try.prog [.tmp 2] _ = _ from tR), ?_⟩
    try dsimp only
    refine ⟨congrArg AV.bool ?_, E0⟩; first | (exact Eq.symm (decide_eq_true (by unfold blaP; omega))) | (exact Eq.symm (decide_eq_false (by unfold blaP; omega))) | (rw [Bool.eq_iff_iff]; simp only [decide_eq_true_eq, Bool.false_eq_true, false_iff, true_iff]; unfold blaP; omega)
   ·have hg3 := dec_t hg3
    refine o_sk rfl ((wanted_of (b := true) rfl rfl rfl tV).trans rfl) ?_
    refine o_sk rfl ((wanted_of (b := true) rfl rfl rfl tV).trans rfl) ?_
    refine o_rd (r_pick (t := true) tE (fun _ => tE) (fun h => by cases h)) rfl rfl ?_
    refine o_as ?_
    refine o_nil ?_
    refine w_ret ⟨.inr rfl, rfl, .bool (true), (show resultA Try.prog [.tmp 2] _ = _ from tR), ?_⟩
    try dsimp only
    refine ⟨congrArg AV.bool ?_, E0⟩; first | (exact Eq.symm (decide_eq_true (by unfold blaP; omega))) | (exact Eq.symm (decide_eq_false (by unfold blaP; omega))) | (rw [Bool.eq_iff_iff]; simp only [decide_eq_true_eq, Bool.false_eq_true, false_iff, true_iff]; unfold blaP; omega)
  ·have hg2 := dec_t hg2
   refine o_sk rfl ((wanted_of (b := true) rfl rfl rfl tV).trans rfl) ?_
   refine o_sk rfl ((wanted_of (b := true) rfl rfl rfl tV).trans rfl) ?_
   refine o_rd (r_pick (t := true) tE (fun _ => tE) (fun h => by cases h)) rfl rfl ?_
   refine o_mv ?_
   refine o_sk rfl ((wanted_of (b := true) rfl rfl rfl tV).trans rfl) ?_
   refine o_sk rfl ((wanted_of (b := true) rfl rfl rfl tV).trans rfl) ?_
   refine o_rd (r_pick (t := true) tE (fun _ => tE) (fun h => by cases h)) rfl rfl ?_
   refine o_as ?_
   refine o_nil ?_
   refine w_ret ⟨.inr rfl, rfl, .bool (true), (show resultA Try.prog [.tmp 2] _ = _ from tR), ?_⟩
   try dsimp only
   refine ⟨congrArg AV.bool ?_, E0⟩; first | (exact Eq.symm (decide_eq_true (by unfold blaP; omega))) | (exact Eq.symm (decide_eq_false (by unfold blaP; omega))) | (rw [Bool.eq_iff_iff]; simp only [decide_eq_true_eq, Bool.false_eq_true, false_iff, true_iff]; unfold blaP; omega)
 ·have hg1 := dec_t hg1
  refine o_sk rfl ((wanted_of (b := true) rfl rfl rfl tV).trans rfl) ?_
  refine o_sk rfl ((wanted_of (b := true) rfl rfl rfl tV).trans rfl) ?_
  refine o_rd (r_pick (t := true) tE (fun _ => tE) (fun h => by cases h)) rfl rfl ?_
  refine o_mv ?_
  refine o_sk rfl ((wanted_of (b := true) rfl rfl rfl tV).trans rfl) ?_
  refine o_sk rfl ((wanted_of (b := true) rfl rfl rfl tV).trans rfl) ?_
  refine o_rd (r_pick (t := true) tE (fun _ => tE) (fun h => by cases h)) rfl rfl ?_
  refine o_mv ?_
  refine o_sk rfl ((wanted_of (b := true) rfl rfl rfl tV).trans rfl) ?_
  refine o_sk rfl ((wanted_of (b := true) rfl rfl rfl tV).trans rfl) ?_
  refine o_rd (r_pick (t := true) tE (fun _ => tE) (fun h => by cases h)) rfl rfl ?_
  refine o_as ?_
  refine o_nil ?_
  refine w_ret ⟨.inr rfl, rfl, .bool (true), (show resultA Try.prog [.tmp 2] _ = _ from tR), ?_⟩
  try dsimp only
  refine ⟨congrArg AV.bool ?_, E0⟩; first | (exact Eq.symm (decide_eq_true (by unfold blaP; omega))) | (exact Eq.symm (decide_eq_false (by unfold blaP; omega))) | (rw [Bool.eq_iff_iff]; simp only [decide_eq_true_eq, Bool.false_eq_true, false_iff, true_iff]; unfold blaP; omega)
theorem word1_fin (ho : NoOrcBut [7, 21, 69, 81] orc) {H0 : AH} (W0 : Wf H0) (x : Int) : Fin Try.prog orc 54 [.int .u8 (x)] H0 (fun r H' => r = .bool (decide (letP x) || decide (digP x)) ∧ Ext H0 H') := by
 have E0 := Ext.refl W0
 refine fin_of Try.func54 rfl (by rw [Try.ntmps54]; simp) (ho _ rfl _ _) ?_
 rw [Try.ntmps54]
 refine w_sr ?_
 refine o_as ?_
 refine o_nil ?_
 refine w_sr ?_
 refine o_mv ?_
 refine o_cl rfl rfl tS rfl (letter_fin ho W0 x) rfl rfl ?_; rintro _ H1 ⟨rfl, X1⟩
 have W1 := X1.wf; have E1 := E0.trans X1
 have n1 := X1.n
 refine o_mv ?_
 cases hg2 : (decide (letP x) : Bool)
 ·have hg2 := dec_f hg2
  refine o_rd (r_move tE) rfl ((wanted_of (b := false) rfl rfl rfl tV).trans rfl) ?_
  refine o_cl rfl rfl tS rfl (digit_fin ho W1 x) rfl ((wanted_of (b := false) rfl rfl rfl tV).trans rfl) ?_; rintro _ H3 ⟨rfl, X3⟩
  have W3 := X3.wf; have E3 := E1.trans X3
  have n3 := X3.n
  refine o_rd (r_pick (t := false) tE (fun h => by cases h) (fun _ => tE)) rfl rfl ?_
  refine o_as ?_
  refine o_nil ?_
  refine w_ret ⟨.inr rfl, rfl, .bool (decide (digP x)), (show resultA Try.prog [.tmp 2] _ = _ from tR), ?_⟩
  try dsimp only
  exact ⟨congrArg AV.bool (by simp [hg2]), E3⟩
 ·have hg2 := dec_t hg2
  refine o_sk rfl ((wanted_of (b := true) rfl rfl rfl tV).trans rfl) ?_
  refine o_sk rfl ((wanted_of (b := true) rfl rfl rfl tV).trans rfl) ?_
  refine o_rd (r_pick (t := true) tE (fun _ => tE) (fun h => by cases h)) rfl rfl ?_
  refine o_as ?_
  refine o_nil ?_
  refine w_ret ⟨.inr rfl, rfl, .bool (true), (show resultA Try.prog [.tmp 2] _ = _ from tR), ?_⟩
  try dsimp only
  exact ⟨congrArg AV.bool (by simp [hg2]), E1⟩
theorem rem_fin (ho : NoOrcBut [7, 21, 69, 81] orc) {H0 : AH} (W0 : Wf H0) (x : Int) : Fin Try.prog orc 24 [.int .u8 (x)] H0 (fun r H' => r = .bool (decide (x ≠ 10)) ∧ Ext H0 H') := by
 have E0 := Ext.refl W0
 refine fin_of Try.func24 rfl (by rw [Try.ntmps24]; simp) (ho _ rfl _ _) ?_
 rw [Try.ntmps24]
 refine w_sr ?_
 refine o_as ?_
 refine o_nil ?_
 refine w_sr ?_
 refine o_mv ?_
 refine o_rd (r_ne (a := x) (b := 10) tE tE) rfl rfl ?_
 refine o_as ?_
 refine o_nil ?_
 refine w_ret ⟨.inr rfl, rfl, .bool (decide (x ≠ 10)), (show resultA Try.prog [.tmp 2] _ = _ from tR), ?_⟩
 try dsimp only
 exact ⟨by first | rfl | (congr 1; rw [Bool.eq_iff_iff]; simp), E0⟩
theorem run_fin (ho : NoOrcBut [7, 21, 69, 81] orc) {H0 : AH} (W0 : Wf H0) (p : UInt8 → Bool) (g : Nat) (hg : ∀ (H : AH), Wf H → ∀ c : UInt8, Fin Try.prog orc g [.int .u8 ((c.toNat : Nat) : Int)] H (fun r H' => r = .bool (p c) ∧ Ext H H')) (l : List UInt8) (sv : AV) (hS : SB H0 5 l sv) : Fin Try.prog orc 23 [sv, .fn (.func g) [] []] H0 (fun r H' => r = .int .i64 ((runF p l : Nat) : Int) ∧ Ext H0 H') := by
 have E0 := Ext.refl W0
 have hlb := hS.bound
 refine fin_of Try.func23 rfl (by rw [Try.ntmps23]; simp) (ho _ rfl _ _) ?_
 rw [Try.ntmps23]
 refine w_sr ?_
 refine o_as ?_
 refine o_nil ?_
 refine w_sr ?_
 refine o_as ?_
 refine o_nil ?_
 refine w_seq ?_
 refine w_block ?_
 refine w_loop (fun m s => ∃ (e : Env) (H : AH) (n : Nat), s = ⟨e, H, []⟩ ∧ e.val 0 = sv ∧ e.val 1 = .fn (.func g) [] [] ∧ e.val 4 = .int .i64 (0) ∧ e.val 5 = .int .i64 (((n : Nat) : Int)) ∧ Wf H ∧ Ext H0 H ∧ (n + m = l.length) ∧ (∀ j, (h : j < l.length) → j < n → p l[j] = true)) (l.length) ⟨_, H0, 0, rfl, tV, tV, tV, tV, W0, E0, (by omega), (by intro j h hj; omega)⟩ ?_
 intro m s hi
 obtain ⟨e, H1, n, rfl, vt0, vt1, vt4, vt5, W1, E1, hnm, hok⟩ := hi
 have vA := And.intro vt0 (And.intro vt1 (And.intro vt4 vt5))
 refine w_seq ?_
 refine w_sr ?_
 refine o_mv ?_
 refine o_mv ?_
 refine o_rd (r_len (n := l.length) Try.underlying22 tE hS.lenOf) rfl rfl ?_
 refine o_rd (r_lt (a := ((n : Nat) : Int)) (b := ((l.length : Nat) : Int)) tE tE) rfl rfl ?_
 refine o_mv ?_
 cases hg2 : (decide (((n : Nat) : Int) < ((l.length : Nat) : Int)) : Bool)
 ·have hg2 := dec_f hg2
  refine o_sk rfl ((wanted_of (b := false) rfl rfl rfl tV).trans rfl) ?_
  refine o_sk rfl ((wanted_of (b := false) rfl rfl rfl tV).trans rfl) ?_
  refine o_sk rfl ((wanted_of (b := false) rfl rfl rfl tV).trans rfl) ?_
  refine o_sk rfl ((wanted_of (b := false) rfl rfl rfl tV).trans rfl) ?_
  refine o_sk rfl ((wanted_of (b := false) rfl rfl rfl tV).trans rfl) ?_
  refine o_sk rfl ((wanted_of (b := false) rfl rfl rfl tV).trans rfl) ?_
  refine o_rd (r_pick (t := false) tE (fun h => by cases h) (fun _ => tE)) rfl rfl ?_
  refine o_nil ?_
  refine w_cond (t := false) tE (fun h => by cases h) (fun _ => ?_)
  first | refine w_exit (blk_exit ?_) | refine w_exit (show (0 = 0 → _) ∧ (0 ≠ 0 → _) from ⟨fun _ => ?_, fun c => absurd rfl c⟩)
  refine w_sr ?_
  refine o_mv ?_
  refine o_as ?_
  refine o_nil ?_
  refine w_ret ⟨.inr rfl, rfl, .int .i64 (((n : Nat) : Int)), (show resultA Try.prog [.tmp 4] _ = _ from tR), ?_⟩
  try dsimp only
  exact ⟨congrArg (AV.int .i64) (by rw [runF_at (n := n) (by omega) hok (by intro h; first | assumption | omega)]), E1⟩
 ·have hg2 := dec_t hg2
  have hn : n < l.length := by omega
  obtain ⟨loc1, off1, cap1, rfl, hr1, hc1, hcut1⟩ := hS.open_ (by omega)
  have hrn := bytes_at hr1 hn
  refine o_rd (r_move tE) rfl ((wanted_of (b := true) rfl rfl rfl tV).trans rfl) ?_
  refine o_rd (r_move tE) rfl ((wanted_of (b := true) rfl rfl rfl tV).trans rfl) ?_
  refine o_rd (r_move tE) rfl ((wanted_of (b := true) rfl rfl rfl tV).trans rfl) ?_
  refine o_rd (r_indexAddr Try.underlying22 Ty.csz5 tE tE hn) rfl ((wanted_of (b := true) rfl rfl rfl tV).trans rfl) ?_
  refine o_rd (r_load1 Ty.agg5 tE (Ext.read (H := H0) (by assumption) hrn)) rfl ((wanted_of (b := true) rfl rfl rfl tV).trans rfl) ?_
  refine o_cl rfl tE tS rfl (hg _ W1 l[n]) rfl ((wanted_of (b := true) rfl rfl rfl tV).trans rfl) ?_; rintro _ H3 ⟨rfl, X3⟩
  have W3 := X3.wf; have E3 := E1.trans X3
  have n3 := X3.n
  refine o_rd (r_pick (t := true) tE (fun _ => tE) (fun h => by cases h)) rfl rfl ?_
  refine o_nil ?_
  refine w_cond tE (fun hB4 => ?_) (fun hB4 => ?_)
  ·have hc4 := hB4
   refine w_skip ?_
   refine w_block ?_
   refine w_region ?_
   refine o_mv ?_
   refine o_rd (r_addE (a := ((n : Nat) : Int)) (b := 1) (c := ((n + 1 : Nat) : Int)) tE tE (by omega) (by omega) (by omega)) rfl rfl ?_
   refine o_as ?_
   refine o_nil ?_
   exact ⟨m - 1, (by omega), _, H3, n + 1, rfl, tV, tV, tV, tV, W3, E3, (by omega), (by intro j h hj; rcases Nat.lt_succ_iff_lt_or_eq.1 hj with hj | rfl; exact hok j h hj; assumption)⟩
  ·have hc4 := hB4
   first | refine w_exit (blk_exit ?_) | refine w_exit (show (0 = 0 → _) ∧ (0 ≠ 0 → _) from ⟨fun _ => ?_, fun c => absurd rfl c⟩)
   refine w_sr ?_
   refine o_mv ?_
   refine o_as ?_
   refine o_nil ?_
   refine w_ret ⟨.inr rfl, rfl, .int .i64 (((n : Nat) : Int)), (show resultA Try.prog [.tmp 4] _ = _ from tR), ?_⟩
   try dsimp only
   exact ⟨congrArg (AV.int .i64) (by rw [runF_at (n := n) (by omega) hok (by intro h; first | assumption | omega)]), E3⟩
theorem kind_fin (ho : NoOrcBut [7, 21, 69, 81] orc) {H0 : AH} (W0 : Wf H0) (ho81 : ∃ sg, ∀ H, orc 81 [] H = some (.ret sg, H)) (tx : Nat → List UInt8) (ho69 : ∀ k : Nat, k < 67 → ∀ H, orc 69 [.int .i64 (k : Int)] H = some (.ret (.str (tx k)), H)) (t : List UInt8) : Fin Try.prog orc 55 [.str (t)] H0 (fun r H' => r = .int .i64 (kindF tx t) ∧ Ext H0 H') := by
 have E0 := Ext.refl W0
 obtain ⟨sg, hsg⟩ := ho81
 refine fin_of Try.func55 rfl (by rw [Try.ntmps55]; simp) (ho _ rfl _ _) ?_
 rw [Try.ntmps55]
 refine w_sr ?_
 refine o_as ?_
 refine o_nil ?_
 refine w_seq ?_
 refine w_sr ?_
 refine o_mv ?_
 refine o_rd (r_eqS (a := t) (b := []) Try.underlying9 tE tE) rfl rfl ?_
 refine o_nil ?_
 refine w_cond tE (fun hB1 => ?_) (fun hB1 => ?_)
 ·have hc1 := dec_t hB1
  refine w_sr ?_
  refine o_as ?_
  refine o_nil ?_
  refine w_ret ⟨.inr rfl, rfl, .int .i64 (0), (show resultA Try.prog [.tmp 2] _ = _ from tR), ?_⟩
  try dsimp only
  exact ⟨congrArg (AV.int .i64) (show (0 : Int) = kindF tx t by unfold kindF; rw [if_pos hc1]), E0⟩
 ·have hc1 := dec_f hB1
  refine w_skip ?_
  refine w_seq ?_
  refine w_sr ?_
  refine o_cl rfl rfl tS rfl (fin_orc hsg W0) rfl rfl ?_; rintro _ H2 ⟨rfl, X2⟩
  have W2 := X2.wf; have E2 := E0.trans X2
  have n2 := X2.n
  refine o_mv ?_
  refine o_rd (r_addE (a := 40) (b := 27) (c := 67) tE tE (by omega) (by omega) (by omega)) rfl rfl ?_
  refine o_mv ?_
  refine o_nil ?_
  refine w_block ?_
  refine w_loop (fun m s => ∃ (e : Env) (H : AH) (i : Nat), s = ⟨e, H, []⟩ ∧ e.val 0 = .str (t) ∧ e.val 2 = .int .i64 (0) ∧ e.val 8 = .int .i64 (67) ∧ e.val 9 = .int .i64 (((i : Nat) : Int)) ∧ Wf H ∧ Ext H0 H ∧ (∀ j, j < i → ¬ tx j = t) ∧ (i + m = 67)) (67) ⟨_, H2, 0, rfl, tV, tV, tV, tV, W2, E2, (fun j h => by omega), (by omega)⟩ ?_
  intro m s hi
  obtain ⟨e, H3, i, rfl, vt0, vt2, vt8, vt9, W3, E3, hno, him⟩ := hi
  have vA := And.intro vt0 (And.intro vt2 (And.intro vt8 vt9))
  refine w_sr ?_
  refine o_rd (r_lt (a := ((i : Nat) : Int)) (b := 67) tE tE) rfl rfl ?_
  refine o_nil ?_
  refine w_seq ?_
  refine w_cond tE (fun hB4 => ?_) (fun hB4 => ?_)
  ·have hc4 := dec_t hB4
   refine w_skip ?_
   refine w_seq ?_
   refine w_block ?_
   refine w_sr ?_
   refine o_mv ?_
   refine o_as ?_
   refine o_nil ?_
   refine w_sr ?_
   refine o_mv ?_
   refine o_cl rfl rfl tS rfl (fin_orc (ho69 i (by omega)) W3) rfl rfl ?_; rintro _ H5 ⟨rfl, X5⟩
   have W5 := X5.wf; have E5 := E3.trans X5
   have n5 := X5.n
   refine o_mv ?_
   refine o_rd (r_eqS (a := tx i) (b := t) Try.underlying9 tE tE) rfl rfl ?_
   refine o_nil ?_
   refine w_cond tE (fun hB6 => ?_) (fun hB6 => ?_)
   ·have hc6 := dec_t hB6
    refine w_sr ?_
    refine o_mv ?_
    refine o_as ?_
    refine o_nil ?_
    refine w_ret ⟨.inr rfl, rfl, .int .i64 (((i : Nat) : Int)), (show resultA Try.prog [.tmp 2] _ = _ from tR), ?_⟩
    try dsimp only
    exact ⟨congrArg (AV.int .i64) (kindF_at hc1 (by omega) hno hc6).symm, E5⟩
   ·have hc6 := dec_f hB6
    refine w_skip ?_
    refine w_region ?_
    refine o_rd (r_addE (a := ((i : Nat) : Int)) (b := 1) (c := ((i + 1 : Nat) : Int)) tE tE (by omega) (by omega) (by omega)) rfl rfl ?_
    refine o_mv ?_
    refine o_nil ?_
    exact ⟨m - 1, (by omega), _, H5, i + 1, rfl, tV, tV, tV, tV, W5, E5, (fun j h => by rcases Nat.lt_succ_iff_lt_or_eq.1 h with h | h <;> first | exact hno j h | (subst h; assumption)), (by omega)⟩
  ·have hc4 := dec_f hB4
   first | refine w_exit (blk_exit ?_) | refine w_exit (show (0 = 0 → _) ∧ (0 ≠ 0 → _) from ⟨fun _ => ?_, fun c => absurd rfl c⟩)
   refine w_sr ?_
   refine o_as ?_
   refine o_nil ?_
   refine w_ret ⟨.inr rfl, rfl, .int .i64 (0), (show resultA Try.prog [.tmp 2] _ = _ from tR), ?_⟩
   try dsimp only
   exact ⟨congrArg (AV.int .i64) (kindF_no hc1 (fun j h => hno j (by omega))).symm, E3⟩
end Go.Proofs.Ytehmhhlhlipbnaa.Vs
