/-
 The scanner: all tokens of a source.
-/
import Derived.Test.YtehmhhlhlipbnaaScan2
import Derived.Test.YtehmhhlhlipbnaaVjT
set_option autoImplicit false
set_option linter.unusedVariables false
set_option linter.unusedSimpArgs false
namespace Go.Proofs.Ytehmhhlhlipbnaa.Vs
open Go.VI Go.Proofs
variable {orc : CallF}
def TK.cs (t : TK) : List AV := [.int .i64 t.k, .int .i64 t.at_, .int .i64 t.len, .int .i64 t.num]
def tkC (l : List TK) : List AV := (l.map TK.cs).flatten
theorem tkC_snoc (l : List TK) (t : TK) : tkC l ++ t.cs = tkC (l ++ [t]) := by simp [tkC]
theorem tkC_len (l : List TK) : (tkC l).length = l.length * 4 := by
 induction l with
 | nil => rfl
 | cons a r ih => simp only [tkC, List.map_cons, List.flatten_cons, List.length_append, List.length_cons] at ih ⊢; rw [ih]; simp [TK.cs]; omega
/-- the tokens of a source, from a place on -/
def scanGo (tx : Nat → List UInt8) (src : List UInt8) : Nat → Nat → List TK → List TK × Int × Int
 | 0, _, out => (out, 0, 0)
 | f + 1, a, out => if a < src.length then
   if isBla ((src.drop a).headD 0) = true then scanGo tx src f (a + 1) out
   else if (((src.drop a).headD 0).toNat : Int) = 35 then scanGo tx src f (a + runF isRem (src.drop a)) out
   else if (tokF tx (src.drop a)).2 = 0 then scanGo tx src f (a + (tokF tx (src.drop a)).1.len.toNat) (out ++ [{ (tokF tx (src.drop a)).1 with at_ := a }])
   else ([], a, (tokF tx (src.drop a)).2)
  else (out, 0, 0)
def scanF (tx : Nat → List UInt8) (src : List UInt8) : List TK × Int × Int :=
 if 65536 < (src.length : Int) then ([], 65536, 10) else scanGo tx src (src.length + 1) 0 []
section
variable {tx : Nat → List UInt8} {src : List UInt8} {m a : Nat} {out : List TK}
theorem hd_at (h : a < src.length) : (src.drop a).headD 0 = src[a] := by rw [List.drop_eq_getElem_cons h]; rfl
theorem scanGo_bla (h : a < src.length) (hm : 0 < m) (h1 : isBla src[a] = true) : scanGo tx src m a out = scanGo tx src (m - 1) (a + 1) out := by
 obtain ⟨m, rfl⟩ : ∃ k, m = k + 1 := ⟨m - 1, by omega⟩
 simp only [scanGo]; rw [if_pos h, hd_at h, if_pos h1]; rfl
theorem nb {b : Bool} (h : b = false) : ¬ b = true := by rw [h]; decide
theorem scanGo_rem (h : a < src.length) (hm : 0 < m) (h1 : isBla src[a] = false) (h2 : ((src[a].toNat : Nat) : Int) = 35) : scanGo tx src m a out = scanGo tx src (m - 1) (a + runF isRem (src.drop a)) out := by
 obtain ⟨m, rfl⟩ : ∃ k, m = k + 1 := ⟨m - 1, by omega⟩
 simp only [scanGo]; rw [if_pos h, hd_at h, if_neg (nb h1), if_pos h2]; rfl
theorem scanGo_tok (h : a < src.length) (hm : 0 < m) (h1 : isBla src[a] = false) (h2 : ¬ ((src[a].toNat : Nat) : Int) = 35) (h3 : (tokF tx (src.drop a)).2 = 0) {tl : Nat} (h4 : (tokF tx (src.drop a)).1.len = (tl : Int)) :
  scanGo tx src m a out = scanGo tx src (m - 1) (a + tl) (out ++ [{ (tokF tx (src.drop a)).1 with at_ := (a : Int) }]) := by
 obtain ⟨m, rfl⟩ : ∃ k, m = k + 1 := ⟨m - 1, by omega⟩
 simp only [scanGo]; rw [if_pos h, hd_at h, if_neg (nb h1), if_neg h2, if_pos h3, h4]; rfl
theorem scanGo_err (h : a < src.length) (hm : 0 < m) (h1 : isBla src[a] = false) (h2 : ¬ ((src[a].toNat : Nat) : Int) = 35) (h3 : ¬ (tokF tx (src.drop a)).2 = 0) : scanGo tx src m a out = ([], (a : Int), (tokF tx (src.drop a)).2) := by
 obtain ⟨m, rfl⟩ : ∃ k, m = k + 1 := ⟨m - 1, by omega⟩
 simp only [scanGo]; rw [if_pos h, hd_at h, if_neg (nb h1), if_neg h2, if_neg h3]
theorem scanGo_end (h : ¬ a < src.length) (hm : 0 < m) : scanGo tx src m a out = (out, 0, 0) := by
 obtain ⟨m, rfl⟩ : ∃ k, m = k + 1 := ⟨m - 1, by omega⟩
 simp only [scanGo]; rw [if_neg h]
end
theorem signGo_len {tx : Nat → List UInt8} {l : List UInt8} : ∀ n, (signGo tx l n).2 = 0 → ∃ m : Nat, (signGo tx l n).1.len = (m : Int) ∧ 1 ≤ m ∧ m ≤ n
 | 0, h => by simp [signGo] at h
 | n + 1, h => by
  simp only [signGo] at h ⊢
  by_cases c : kindF tx (l.take (n + 1)) ≠ 0
  ·rw [if_pos c]; exact ⟨n + 1, rfl, by omega, by omega⟩
  ·rw [if_neg c] at h ⊢
   obtain ⟨m, h1, h2, h3⟩ := signGo_len n h
   exact ⟨m, h1, h2, by omega⟩
theorem tokF_len {tx : Nat → List UInt8} {l : List UInt8} (hl : 0 < l.length) (h : (tokF tx l).2 = 0) : ∃ m : Nat, (tokF tx l).1.len = (m : Int) ∧ 1 ≤ m ∧ m ≤ l.length := by
 unfold tokF at h ⊢
 rw [head_at hl] at h ⊢
 by_cases c1 : isLet l[0] = true
 ·rw [if_pos c1] at h ⊢
  have hp : 0 < runF isWor l := runF_pos hl (by simp [isWor, c1])
  have hle := runF_le isWor l
  refine ⟨runF isWor l, ?_, by omega, hle⟩
  unfold wordF at h ⊢
  by_cases q1 : kindF tx (l.take (runF isWor l)) ≠ 0
  ·rw [if_pos q1]
  ·rw [if_neg q1] at h ⊢
   by_cases q2 : 32 < ((runF isWor l : Nat) : Int)
   ·rw [if_pos q2] at h; simp at h
   ·rw [if_neg q2]
 ·rw [if_neg c1] at h ⊢
  by_cases c2 : isDig l[0] = true
  ·rw [if_pos c2] at h ⊢
   have hp : 0 < runF isDig l := runF_pos hl c2
   refine ⟨runF isDig l, ?_, by omega, runF_le isDig l⟩
   unfold numF at h ⊢
   split at h
   ·simp at h
   ·rename_i q
    rw [if_neg q]
    cases hn : numGo (l.take (runF isDig l)) 0 with
    | none => rw [hn] at h; simp at h
    | some v => rfl
  ·rw [if_neg c2] at h ⊢
   obtain ⟨m, h1, h2, h3⟩ := signGo_len _ h
   exact ⟨m, h1, h2, by omega⟩
/-- tokens, where they can be read -/
def TS (H : AH) (l : List TK) (s : AV) : Prop := (l = [] ∧ s = .nils) ∨ ∃ loc off cap, s = .sl loc off l.length cap ∧ l.length ≤ cap ∧ H.read loc off (l.length * 4) = some (tkC l)
set_option maxRecDepth 100000 in
set_option maxHeartbeats 4000000 in
theorem scan_fin (ho : NoOrcBut [7, 21, 69, 81] orc) {H0 : AH} (W0 : Wf H0) (ho81 : ∃ sg, ∀ H, orc 81 [] H = some (.ret sg, H)) (tx : Nat → List UInt8) (ho69 : ∀ k : Nat, k < 67 → ∀ H, orc 69 [.int .i64 (k : Int)] H = some (.ret (.str (tx k)), H)) (src : List UInt8) (sv : AV) (hS : SB H0 5 src sv) : Fin Try.prog orc 15 [sv] H0 (fun r H' => ∃ s, r = .tup [s, .agg [.int .i64 (scanF tx src).2.1, .int .i64 (scanF tx src).2.2]] ∧ TS H' (scanF tx src).1 s ∧ Ext H0 H') := by
 have E0 := Ext.refl W0
 have hlb := hS.bound
 refine fin_of Try.func15 rfl (by rw [Try.ntmps15]; simp) (ho _ rfl _ _) ?_
 rw [Try.ntmps15]
 refine w_sr ?_
 refine o_as ?_
 refine o_nw W0 (a_alloc Ty.zero34) rfl rfl rfl (by simp) ?_; intro H1 n1 W1 X1 A1
 have A1 : H1.at H0.n = some (.row [.int .i64 (0), .int .i64 (0)] 34 false none) := A1
 have E1 := E0.trans X1
 have g1 : H0.n ≤ H0.n := E0.n
 refine o_nil ?_
 refine w_seq ?_
 refine w_sr ?_
 refine o_mv ?_
 refine o_rd (r_len (n := src.length) Try.underlying22 tE hS.lenOf) rfl rfl ?_
 refine o_rd (r_gt (a := ((src.length : Nat) : Int)) (b := 65536) tE tE) rfl rfl ?_
 refine o_nil ?_
 refine w_cond tE (fun hB2 => ?_) (fun hB2 => ?_)
 ·have hc2 := dec_t hB2
  refine w_sr ?_
  refine o_rd (r_build (cs := [.int .i64 (65536), .int .i64 (10)]) Ty.zero34 Ty.pl34 tP rfl) rfl rfl ?_
  refine o_as ?_
  refine o_st W1 tE tE A1 Ty.csz34 rfl (Nat.le_of_ble_eq_true rfl) (by rfl) rfl rfl ?_; intro H3 n3 W3 A3 K3
  have A3 : H3.at H0.n = some (.row [.int .i64 (65536), .int .i64 (10)] 34 false none) := A3
  have E3 := Ext.put W0 E1 (by have := E1.n; omega) K3 n3 W3
  refine o_nil ?_
  have hr4 : H3.read (.mt H0.n) 0 2 = some [.int .i64 (65536), .int .i64 (10)] := read_mt A3 (Nat.le_of_ble_eq_true rfl)
  refine w_ret ⟨.inr rfl, rfl, .tup [.nils, .agg [.int .i64 (65536), .int .i64 (10)]], (show resultA Try.prog [.tmp 2, .cell 3 34] _ = _ by simp only [resultA, resultsA, envOf, val_set, ↓reduceIte, Nat.reduceEqDiff, Option.map_some, hr4, Ty.agg34, Ty.csz34] <;> rfl), ?_⟩
  try dsimp only
  refine ⟨.nils, ?_, .inl ⟨?_, rfl⟩, E3⟩ <;> (unfold scanF; rw [if_pos (by assumption)])
 ·have hc2 := dec_f hB2
  refine w_skip ?_
  refine w_sr ?_
  refine o_as ?_
  refine o_nil ?_
  refine w_seq ?_
  refine w_sr ?_
  refine o_as ?_
  refine o_nil ?_
  refine w_block ?_
  refine w_loop (fun m s => ∃ (e : Env) (H : AH) (a : Nat) (out : List TK) (so : AV), s = ⟨e, H, []⟩ ∧ e.val 0 = sv ∧ e.val 2 = .nils ∧ e.val 3 = .ptr (.mt (H0.n)) (0) ∧ e.val 4 = so ∧ e.val 5 = .int .i64 (((a : Nat) : Int)) ∧ Wf H ∧ Ext H0 H ∧ H.at (H0.n) = some (.row [.int .i64 (0), .int .i64 (0)] 34 false none) ∧ (scanF tx src = scanGo tx src m a out) ∧ (src.length < a + m ∧ a ≤ src.length) ∧ (out.length ≤ a) ∧ (GX H1 H.n H 47 4 (tkC out) out.length so) ∧ (Ext H1 H)) (src.length + 1) ⟨_, H1, 0, [], .nils, rfl, tV, tV, tV, tV, tV, W1, E1, A1, (by unfold scanF; rw [if_neg (by omega)]), (by omega), (by simp), GX.nil, (Ext.refl W1)⟩ ?_
  intro m s hi
  obtain ⟨e, H5, a, out, so, rfl, vt0, vt2, vt3, vt4, vt5, W5, E5, A1, hgo, hfm, hol, HG, hX1⟩ := hi
  have vA := And.intro vt0 (And.intro vt2 (And.intro vt3 (And.intro vt4 vt5)))
  have l5_0 := W5.lt A1
  refine w_seq ?_
  refine w_sr ?_
  refine o_mv ?_
  refine o_mv ?_
  refine o_rd (r_len (n := src.length) Try.underlying22 tE hS.lenOf) rfl rfl ?_
  refine o_rd (r_lt (a := ((a : Nat) : Int)) (b := ((src.length : Nat) : Int)) tE tE) rfl rfl ?_
  refine o_nil ?_
  refine w_cond tE (fun hB6 => ?_) (fun hB6 => ?_)
  ·have hc6 := dec_t hB6
   refine w_skip ?_
   refine w_block ?_
   refine w_seq ?_
   refine w_block ?_
   refine w_sr ?_
   have hal : a < src.length := by omega
   obtain ⟨loc1, off1, cap1, rfl, _, _, _⟩ := hS.open_ (by omega)
   obtain ⟨hr1, hc1, hcut1⟩ := sb_caps hS
   have hra := bytes_at hr1 hal
   have hdl : (src.drop a).length = src.length - a := by simp
   have hhd : (src.drop a).headD 0 = src[a] := by rw [List.drop_eq_getElem_cons hal]; rfl
   have hfr := hS.from_ (j := a) (by omega)
   have hrm := runF_le isRem (src.drop a)
   refine o_mv ?_
   refine o_mv ?_
   refine o_rd (r_indexAddr Try.underlying22 Ty.csz5 tE tE hal) rfl rfl ?_
   refine o_rd (r_load1 Ty.agg5 tE (Ext.read (H := H0) (by assumption) hra)) rfl rfl ?_
   refine o_cl rfl rfl tS rfl (blank_fin ho W5 _) rfl rfl ?_; rintro _ H7 ⟨rfl, X7⟩
   have W7 := X7.wf; have E7 := E5.trans X7
   have A1 := X7.keep _ _ A1
   have n7 := X7.n
   refine o_as ?_
   refine o_nil ?_
   refine w_cond tE (fun hB8 => ?_) (fun hB8 => ?_)
   ·have hc8 := hB8
    refine w_sr ?_
    refine o_mv ?_
    refine o_rd (r_addE (a := ((a : Nat) : Int)) (b := 1) (c := ((a + 1 : Nat) : Int)) tE tE (by omega) (by omega) (by omega)) rfl rfl ?_
    refine o_as ?_
    refine o_nil ?_
    refine w_exit (blk_pass (by decide) (blk_exit ?_))
    exact ⟨m - 1, (by omega), _, H7, a + 1, out, so, rfl, tV, tV, tV, tV, tV, W7, E7, A1, (by rw [hgo]; first | exact scanGo_bla hal (by omega) (by assumption) | exact scanGo_rem hal (by omega) (by assumption) (by assumption) | exact scanGo_tok hal (by omega) (by assumption) (by assumption) htz htl), (by omega), (by first | (simp; omega) | omega), ((HG.ext X7).cap W7), (hX1.trans X7)⟩
   ·have hc8 := hB8
    refine w_sr ?_
    refine o_mv ?_
    refine o_mv ?_
    refine o_rd (r_indexAddr Try.underlying22 Ty.csz5 tE tE hal) rfl rfl ?_
    refine o_rd (r_load1 Ty.agg5 tE (Ext.read (H := H0) (by assumption) hra)) rfl rfl ?_
    refine o_rd (r_eq (a := ((src[a].toNat : Nat) : Int)) (b := 35) tE tE) rfl rfl ?_
    refine o_as ?_
    refine o_nil ?_
    refine w_cond tE (fun hB9 => ?_) (fun hB9 => ?_)
    ·have hc9 := dec_t hB9
     refine w_sr ?_
     have hrp := runF_pos (p := isRem) (l := src.drop a) (by omega) (by simp only [List.getElem_drop, Nat.add_zero]; unfold isRem; exact decide_eq_true (by omega))
     refine o_mv ?_
     refine o_mv ?_
     refine o_mv ?_
     refine o_rd (r_sliceFrom (j := a) Try.underlying22 Ty.csz5 tE tE (by omega) hc1 (cutOk_ext E7 hcut1)) rfl rfl ?_
     refine o_cl rfl rfl tS rfl (run_fin ho W7 isRem 24 (fun H W c => rem_fin ho W _) (src.drop a) _ (hfr.ext E7)) rfl rfl ?_; rintro _ H10 ⟨rfl, X10⟩
     have W10 := X10.wf; have E10 := E7.trans X10
     have A1 := X10.keep _ _ A1
     have n10 := X10.n
     refine o_rd (r_addE (a := ((a : Nat) : Int)) (b := ((runF isRem (src.drop a) : Nat) : Int)) (c := ((a + runF isRem (src.drop a) : Nat) : Int)) tE tE (by omega) (by omega) (by omega)) rfl rfl ?_
     refine o_as ?_
     refine o_nil ?_
     refine w_exit (blk_pass (by decide) (blk_exit ?_))
     exact ⟨m - 1, (by omega), _, H10, a + runF isRem (src.drop a), out, so, rfl, tV, tV, tV, tV, tV, W10, E10, A1, (by rw [hgo]; first | exact scanGo_bla hal (by omega) (by assumption) | exact scanGo_rem hal (by omega) (by assumption) (by assumption) | exact scanGo_tok hal (by omega) (by assumption) (by assumption) htz htl), (by omega), (by first | (simp; omega) | omega), (((HG.ext X7).ext X10).cap W10), ((hX1.trans X7).trans X10)⟩
    ·have hc9 := dec_f hB9
     refine w_skip ?_
     refine w_sr ?_
     refine o_mv ?_
     refine o_mv ?_
     refine o_rd (r_sliceFrom (j := a) Try.underlying22 Ty.csz5 tE tE (by omega) hc1 (cutOk_ext E7 hcut1)) rfl rfl ?_
     refine o_cl rfl rfl tS rfl ((by have h := token_fin ho W7 ho81 tx ho69 (src.drop a) loc1 (off1 + a * 1) (cap1 - a) (by rw [hdl]; exact hfr.ext E7) (by rw [hdl]; omega); rw [hdl] at h; exact h)) rfl rfl ?_; rintro _ H11 ⟨rfl, X11⟩
     have W11 := X11.wf; have E11 := E7.trans X11
     have A1 := X11.keep _ _ A1
     have n11 := X11.n
     refine o_mv ?_
     refine o_rd (r_extract tE rfl) rfl rfl ?_
     refine o_rd (r_extract tE rfl) rfl rfl ?_
     refine o_nw W11 (a_alloc Ty.zero47) rfl rfl rfl (by simp) ?_; intro H12 n12 W12 X12 A12
     have A12 : H12.at H11.n = some (.row [.int .i64 (0), .int .i64 (0), .int .i64 (0), .int .i64 (0)] 47 false none) := A12
     have E12 := E11.trans X12
     have g12 : H0.n ≤ H11.n := E11.n
     have A1 := X12.keep _ _ A1
     refine o_st W12 tE tE A12 Ty.csz47 rfl (Nat.le_of_ble_eq_true rfl) (by rfl) rfl rfl ?_; intro H13 n13 W13 A13 K13
     have A13 : H13.at H11.n = some (.row [.int .i64 ((tokF tx (src.drop a)).1.k), .int .i64 ((tokF tx (src.drop a)).1.at_), .int .i64 ((tokF tx (src.drop a)).1.len), .int .i64 ((tokF tx (src.drop a)).1.num)] 47 false none) := A13
     have E13 := Ext.put W0 E12 (by have := E12.n; omega) K13 n13 W13
     have A1 := K13.own A1 (by omega)
     refine o_as ?_
     refine o_nil ?_
     refine w_seq ?_
     refine w_sr ?_
     refine o_mv ?_
     refine o_rd (r_ne (a := (tokF tx (src.drop a)).2) (b := 0) tE tE) rfl rfl ?_
     refine o_nil ?_
     refine w_cond tE (fun hB14 => ?_) (fun hB14 => ?_)
     ·have hc14 := dec_t hB14
      refine w_sr ?_
      refine o_mv ?_
      refine o_mv ?_
      refine o_rd (r_build (cs := [.int .i64 (((a : Nat) : Int)), .int .i64 ((tokF tx (src.drop a)).2)]) Ty.zero34 Ty.pl34 tP rfl) rfl rfl ?_
      refine o_as ?_
      refine o_st W13 tE tE A1 Ty.csz34 rfl (Nat.le_of_ble_eq_true rfl) (by rfl) rfl rfl ?_; intro H15 n15 W15 A15 K15
      have A15 : H15.at H0.n = some (.row [.int .i64 (((a : Nat) : Int)), .int .i64 ((tokF tx (src.drop a)).2)] 34 false none) := A15
      have E15 := Ext.put W0 E13 (by have := E13.n; omega) K15 n15 W15
      have A13 := K15.own A13 (by omega)
      refine o_nil ?_
      have hr16 : H15.read (.mt H0.n) 0 2 = some [.int .i64 (((a : Nat) : Int)), .int .i64 ((tokF tx (src.drop a)).2)] := read_mt A15 (Nat.le_of_ble_eq_true rfl)
      refine w_ret ⟨.inr rfl, rfl, .tup [.nils, .agg [.int .i64 (((a : Nat) : Int)), .int .i64 ((tokF tx (src.drop a)).2)]], (show resultA Try.prog [.tmp 2, .cell 3 34] _ = _ by simp only [resultA, resultsA, envOf, val_set, ↓reduceIte, Nat.reduceEqDiff, Option.map_some, vt0, vt2, vt3, vt4, vt5, hr16, Ty.agg34, Ty.csz34] <;> rfl), ?_⟩
      try dsimp only
      have hsc : scanF tx src = ([], (a : Int), (tokF tx (src.drop a)).2) := by rw [hgo]; exact scanGo_err hal (by omega) (by assumption) (by assumption) (by omega)
      exact ⟨.nils, by rw [hsc], .inl ⟨by rw [hsc], rfl⟩, E15⟩
     ·have hc14 := dec_fn hB14
      refine w_skip ?_
      refine w_sr ?_
      have htz : (tokF tx (src.drop a)).2 = 0 := by omega
      obtain ⟨tl, htl, ht1, ht2⟩ := tokF_len (by rw [hdl]; omega) htz
      refine o_mv ?_
      refine o_rd (r_fieldAddr Ty.fo47_1 tE) rfl rfl ?_
      refine o_st W13 tE tE A13 Ty.csz3 rfl (Nat.le_of_ble_eq_true rfl) (by rfl) rfl rfl ?_; intro H17 n17 W17 A17 K17
      have A17 : H17.at H11.n = some (.row [.int .i64 ((tokF tx (src.drop a)).1.k), .int .i64 (((a : Nat) : Int)), .int .i64 ((tokF tx (src.drop a)).1.len), .int .i64 ((tokF tx (src.drop a)).1.num)] 47 false none) := A17
      have E17 := Ext.put W0 E13 (by have := E13.n; omega) K17 n17 W17
      have A1 := K17.own A1 (by omega)
      refine o_nil ?_
      refine w_sr ?_
      refine o_mv ?_
      refine o_rd (r_loadN (cs := [.int .i64 ((tokF tx (src.drop a)).1.k), .int .i64 (((a : Nat) : Int)), .int .i64 ((tokF tx (src.drop a)).1.len), .int .i64 ((tokF tx (src.drop a)).1.num)]) Ty.agg47 Ty.csz47 tE (read_mt A17 (Nat.le_of_ble_eq_true rfl))) rfl rfl ?_
      have HG2 := (((((HG.ext X7).ext X11).ext X12).put K13 (by omega)).put K17 (by omega))
      refine o_nw W17 (a_build1 Try.underlying43 Ty.csz47 Ty.zero47 rfl tE rfl (by decide)) rfl rfl rfl (by simp) ?_; intro H18 n18 W18 X18 A18
      have E18 := E17.trans X18
      have A1 := X18.keep _ _ A1
      have A17 := X18.keep _ _ A17
      have hlb3 := W18.lt A1
      have hkeep3 := A1; have hkeep6 := A17
      have hX1p := (Ext.put W1 (Ext.put W1 (((hX1.trans X7).trans X11).trans X12) (by omega) K13 n13 W13) (by omega) K17 n17 W17).trans X18; have hX1n := hX1p.n
      refine o_apF W1 W18 hX1p Try.underlying43 Try.underlying43 rfl Ty.csz47 Ty.byt47 Ty.zero47 rfl tE tE (HG2.ext X18) A18 rfl rfl (by omega) rfl rfl ?_; intro so2 H19 HG3 W19 hX1q F19
      have E19 := E1.trans hX1q
      have HG3 : GX H1 H19.n H19 47 4 (tkC (out ++ [{ (tokF tx (src.drop a)).1 with at_ := (a : Int) }])) (out.length + 1) so2 := by rw [← tkC_snoc]; exact HG3
      have A1 := F19 H0.n (by omega) _ hkeep3 (.inl rfl)
      have A17 := F19 H11.n (by omega) _ hkeep6 (.inl rfl)
      refine o_as ?_
      refine o_nil ?_
      refine w_region ?_
      refine o_mv ?_
      refine o_rd (r_fieldAddr Ty.fo47_2 tE) rfl rfl ?_
      refine o_rd (r_load1 (v := .int .i64 ((tokF tx (src.drop a)).1.len)) Ty.agg3 tE (read_mt A17 (Nat.le_of_ble_eq_true rfl))) rfl rfl ?_
      rw [htl]
      refine o_rd (r_addE (a := ((a : Nat) : Int)) (b := ((tl : Nat) : Int)) (c := ((a + tl : Nat) : Int)) tE tE (by omega) (by omega) (by omega)) rfl rfl ?_
      refine o_as ?_
      refine o_nil ?_
      exact ⟨m - 1, (by omega), _, H19, a + tl, (out ++ [{ (tokF tx (src.drop a)).1 with at_ := (a : Int) }]), so2, rfl, tV, tV, tV, tV, tV, W19, E19, A1, (by rw [hgo]; first | exact scanGo_bla hal (by omega) (by assumption) | exact scanGo_rem hal (by omega) (by assumption) (by assumption) | exact scanGo_tok hal (by omega) (by assumption) (by assumption) htz htl), (by omega), (by first | (simp; omega) | omega), (by rw [List.length_append]; exact HG3), hX1q⟩
  ·have hc6 := dec_f hB6
   first | refine w_exit (blk_exit ?_) | refine w_exit (show (0 = 0 → _) ∧ (0 ≠ 0 → _) from ⟨fun _ => ?_, fun c => absurd rfl c⟩)
   refine w_sr ?_
   refine o_mv ?_
   refine o_rd (r_build (cs := [.int .i64 (0), .int .i64 (0)]) Ty.zero34 Ty.pl34 tP rfl) rfl rfl ?_
   refine o_as ?_
   refine o_st W5 tE tE A1 Ty.csz34 rfl (Nat.le_of_ble_eq_true rfl) (by rfl) rfl rfl ?_; intro H20 n20 W20 A20 K20
   have A20 : H20.at H0.n = some (.row [.int .i64 (0), .int .i64 (0)] 34 false none) := A20
   have E20 := Ext.put W0 E5 (by have := E5.n; omega) K20 n20 W20
   refine o_nil ?_
   have hr21 : H20.read (.mt H0.n) 0 2 = some [.int .i64 (0), .int .i64 (0)] := read_mt A20 (Nat.le_of_ble_eq_true rfl)
   refine w_ret ⟨.inr rfl, rfl, .tup [so, .agg [.int .i64 (0), .int .i64 (0)]], (show resultA Try.prog [.tmp 2, .cell 3 34] _ = _ by simp only [resultA, resultsA, envOf, val_set, ↓reduceIte, Nat.reduceEqDiff, Option.map_some, vt0, vt2, vt3, vt4, vt5, hr21, Ty.agg34, Ty.csz34] <;> rfl), ?_⟩
   try dsimp only
   have hsc : scanF tx src = (out, 0, 0) := by rw [hgo]; exact scanGo_end (by omega) (by omega)
   refine ⟨so, by rw [hsc], ?_, E20⟩
   rw [hsc]
   by_cases hz : out = []
   ·subst hz; exact .inl ⟨rfl, by rcases HG with ⟨_, _, h⟩ | ⟨h, _⟩; exact h; simp at h⟩
   ·have hz1 : 1 ≤ out.length := List.length_pos_iff.2 hz
    rcases HG with ⟨h0, _⟩ | ⟨_, b, f, N, hb, O⟩
    ·omega
    ·have hNb := N.1
     have O2 := O.keep (H' := H20) (fun x hx _ => K20.own hx (by omega))
     obtain ⟨off, cap, h1, h2, h3⟩ := O2.read
     exact .inr ⟨.mt b, off, cap, h1, h2, h3⟩
end Go.Proofs.Ytehmhhlhlipbnaa.Vs
