/-
  great of squintlaw07: what it answers.
-/
import Derived.Test.YtenfjdkeikjhlaaTy
import Derived.Test.YtenfjdkeikjhlaaVj
import Derived.Test.YtenfjdkeikjhlaaVjV
set_option autoImplicit false
set_option linter.unusedVariables false
set_option linter.unusedSimpArgs false
namespace Go.Proofs.Ytenfjdkeikjhlaa.Vs
open Go.VI Go.Proofs

def gr : Nat → Nat → List (V × Nat) → Bool
  | 0, _, _ => true
  | f + 1, n, [] => false
  | f + 1, n, (x, d) :: r => if n + 1 + x.l.length > 65536 ∨ d > 5000 then true else if n + 1 + r.length + x.l.length > 65536 then true else gr f (n + 1) ((x.l.map fun y => (y, d + 1)).reverse ++ r)

variable {orc : CallF}
def dcell (p : V × Nat) : AV := .int .i64 (p.2 : Int)
def GInv (H0 : AH) (R : Bool) (m : Nat) (s : St) : Prop :=
  ∃ (e : Env) (H : AH) (n : Nat) (st : List (V × Nat)) (sl sd : AV) (bl bd : Nat) (fl fd : Option Nat) (csl : List AV), s = ⟨e, H, []⟩ ∧ e.val 3 = sl ∧ e.val 4 = sd ∧ e.val 5 = .int .i64 (n : Int) ∧ Wf H ∧ Ext H0 H ∧
    Own H 24 3 sl st.length csl bl fl ∧ LA H0 (st.reverse.map Prod.fst) csl ∧ Own H 3 1 sd st.length (st.reverse.map dcell) bd fd ∧ Apart bl fl bd fd ∧ New H0 bl fl ∧ New H0 bd fd ∧ n + m = 65537 ∧ st.length + n ≤ 65536 ∧ (∀ p ∈ st, p.2 ≤ 5001) ∧ gr m n st = R

set_option maxRecDepth 100000 in
theorem great_fin (ho : ∀ a H, orc 10 a H = none) {H0 : AH} (W0 : Wf H0) {v : V} {a : List AV} (hv : VA H0 v a) :
    Fin Try.prog orc 10 [.agg a] H0 (fun r H' => r = .bool (gr 65537 0 [(v, 1)]) ∧ Ext H0 H') := by
  have E0 := Ext.refl W0
  have hal := hv.len
  refine fin_of Try.func10 rfl (by rw [Try.ntmps10]; simp) (ho _ _) ?_
  rw [Try.ntmps10]
  refine w_seq (w_region ?_)
  refine o_nw W0 (a_box (by simp only [ev, val_set, ofValue, ofCell, ↓reduceIte, Nat.reduceEqDiff, envOf] <;> rfl)) rfl rfl rfl (by simp) ?_; intro H1 n1 W1 X1 A1; have E1 := E0.trans X1
  refine o_rd (r_assign (by simp only [ev, val_set, ofValue, ofCell, ↓reduceIte, Nat.reduceEqDiff, envOf] <;> rfl)) rfl rfl ?_
  refine o_nil ?_
  refine w_seq (w_region ?_)
  have hr1 : H1.read (.mt H0.n) 0 3 = some a := by
    rw [read_mt A1 (by show 0 + 3 ≤ a.length; omega)]
    show some (List.take 3 a) = _
    rw [List.take_of_length_le (by omega)]
  refine o_rd (r_loadN Ty.agg24 Ty.csz24 (by simp only [ev, val_set, ofValue, ofCell, ↓reduceIte, Nat.reduceEqDiff, envOf] <;> rfl) hr1) rfl rfl ?_
  refine o_nw W1 (a_build1 Try.underlying22 Ty.csz24 Ty.zero24 rfl (by simp only [ev, val_set, ofValue, ofCell, ↓reduceIte, Nat.reduceEqDiff, envOf] <;> rfl) (by exact hal) (by decide)) rfl rfl rfl (by simp) ?_; intro H2 n2 W2 X2 A10; have E2 := E1.trans X2
  refine o_rd (r_assign (by simp only [ev, val_set, ofValue, ofCell, ↓reduceIte, Nat.reduceEqDiff, envOf] <;> rfl)) rfl rfl ?_
  refine o_nil ?_
  refine w_seq (w_region ?_)
  refine o_nw W2 (a_build1 Try.underlying28 Ty.csz3 Ty.zero3 rfl (by simp only [ev, val_set, ofValue, ofCell, ↓reduceIte, Nat.reduceEqDiff, envOf] <;> rfl) rfl (by decide)) rfl rfl rfl (by simp) ?_; intro H3 n3 W3 X3 A11; have E3 := E2.trans X3
  refine o_rd (r_assign (by simp only [ev, val_set, ofValue, ofCell, ↓reduceIte, Nat.reduceEqDiff, envOf] <;> rfl)) rfl rfl ?_
  refine o_nil ?_
  refine w_seq (w_region ?_)
  refine o_rd (r_assign (by simp only [ev, val_set, ofValue, ofCell, ↓reduceIte, Nat.reduceEqDiff, envOf] <;> rfl)) rfl rfl ?_
  refine o_nil ?_
  have O3 : Own H3 24 3 (freshSl H1.n 1 1) 1 a H1.n none := (own_fresh (n := 1) (e := 3) A10 (by exact hal)).ext X3
  have O4 : Own H3 3 1 (freshSl H2.n 1 1) 1 [.int .i64 1] H2.n none := own_fresh (n := 1) (e := 1) A11 rfl
  refine w_seq (w_block ?_)
  refine w_loop (GInv H0 (gr 65537 0 [(v, 1)])) 65537 ⟨_, H3, 0, [(v, 1)], _, _, H1.n, H2.n, none, none, a, rfl, (by simp only [ev, val_set, ofValue, ofCell, ↓reduceIte, Nat.reduceEqDiff, envOf] <;> rfl), (by simp only [ev, val_set, ofValue, ofCell, ↓reduceIte, Nat.reduceEqDiff, envOf] <;> rfl), (by simp only [ev, val_set, ofValue, ofCell, ↓reduceIte, Nat.reduceEqDiff, envOf] <;> rfl), W3, E3, O3, LA.one hv, O4, ⟨by omega, .inl rfl⟩, ⟨by omega, fun f h => by cases h⟩, ⟨by omega, fun f h => by cases h⟩, rfl, by simp, by simp, rfl⟩ ?_
  clear hr1 O3 O4 A1 A10 A11 X1 X2 X3 E1 E2 E3 W1 W2 W3 n1 n2 n3 H1 H2 H3
  intro m s hi
  obtain ⟨e, H, n, st, sl, sd, bl, bd, fl, fd, csl, rfl, v3, v4, v5, WH, EH, OL, LL, OD, AP, NL, ND, hm, hst, hd5, hg⟩ := hi
  have hLl : lenOf sl = some st.length := by obtain ⟨_, _, rfl, _⟩ := OL.read; rfl
  have hLd : lenOf sd = some st.length := by obtain ⟨_, _, rfl, _⟩ := OD.read; rfl
  refine w_seq (w_seq (w_region ?_))
  refine o_rd (r_move (by simp only [ev, val_set, ofValue, ofCell, ↓reduceIte, Nat.reduceEqDiff, v3, v4, v5] <;> rfl)) rfl rfl ?_
  refine o_rd (r_len Try.underlying22 (by simp only [ev, val_set, ofValue, ofCell, ↓reduceIte, Nat.reduceEqDiff, v3, v4, v5] <;> rfl) hLl) rfl rfl ?_
  refine o_rd (r_gt (by simp only [ev, val_set, ofValue, ofCell, ↓reduceIte, Nat.reduceEqDiff, v3, v4, v5] <;> rfl) (by simp only [ev, val_set, ofValue, ofCell, ↓reduceIte, Nat.reduceEqDiff, v3, v4, v5] <;> rfl)) rfl rfl ?_
  refine o_nil ?_
  refine w_cond (by simp only [ev, val_set, ofValue, ofCell, ↓reduceIte, Nat.reduceEqDiff, v3, v4, v5] <;> rfl) (fun hc => ?_) (fun hc => ?_)
  case refine_2 =>
    -- nothing is left
    have hc := dec_f hc
    have hst0 : st = [] := List.eq_nil_of_length_eq_zero (by omega)
    subst hst0
    refine w_exit (blk_exit ?_)
    refine w_seq (w_region ?_)
    refine o_rd (r_assign (by simp only [ev, val_set, ofValue, ofCell, ↓reduceIte, Nat.reduceEqDiff, v3, v4, v5] <;> rfl)) rfl rfl ?_
    refine o_nil ?_
    refine w_ret ⟨.inr rfl, rfl, _, (show resultA Try.prog [.tmp 2] _ = _ by simp only [resultA, resultsA, val_set, ↓reduceIte, Nat.reduceEqDiff, Option.map_some] <;> rfl), ?_, EH⟩
    obtain ⟨m, rfl⟩ : ∃ k, m = k + 1 := ⟨m - 1, by simp at hst; omega⟩
    rw [← hg]; rfl
  have hc := dec_t hc
  refine w_skip ?_
  obtain ⟨p, st, rfl⟩ : ∃ p r, st = p :: r := by cases st with | nil => simp at hc | cons p r => exact ⟨p, r, rfl⟩
  obtain ⟨x, d⟩ := p
  rw [List.reverse_cons, List.map_append] at LL OD
  simp only [List.length_cons] at hst hLl hLd OL OD
  obtain ⟨m, rfl⟩ : ∃ k, m = k + 1 := ⟨m - 1, by omega⟩
  have hdl : d ≤ 5001 := hd5 (x, d) List.mem_cons_self
  obtain ⟨ol, cl, rfl, hcl, RL⟩ := OL.read
  obtain ⟨od, cd, rfl, hcd, RD⟩ := OD.read
  obtain ⟨c1, ax, rfl, LL1, hx⟩ := LL.append_inv
  have hx := hx.one_inv
  have hc1 : c1.length = st.length * 3 := by have := LL1.len; simpa using this
  have hax := hx.len
  obtain ⟨xk, xn, xl⟩ := x
  cases hx with | mk _ _ _ sx hS =>
  have rL : H.read (.mt bl) (ol + st.length * 3) 3 = some [.int .i64 xk, .int .i64 xn, sx] := by
    rw [read_part RL (by omega), ← hc1, List.drop_left]; rfl
  have rD : H.read (.mt bd) (od + st.length * 1) 1 = some [.int .i64 (d : Int)] := by
    rw [read_part RD (by omega)]
    have : (st.reverse.map dcell).length = st.length * 1 := by simp
    rw [← this, List.drop_left]; rfl
  have hlx : lenOf sx = some xl.length := hS.lenOf
  have hbx := hS.bound
  refine w_block ?_
  -- x := left[len(left)-1]
  refine w_seq (w_region ?_)
  refine o_rd (r_move (by simp only [ev, val_set, ofValue, ofCell, ↓reduceIte, Nat.reduceEqDiff, v3, v4, v5] <;> rfl)) rfl rfl ?_
  refine o_rd (r_move (by simp only [ev, val_set, ofValue, ofCell, ↓reduceIte, Nat.reduceEqDiff, v3, v4, v5] <;> rfl)) rfl rfl ?_
  refine o_rd (r_len Try.underlying22 (by simp only [ev, val_set, ofValue, ofCell, ↓reduceIte, Nat.reduceEqDiff, v3, v4, v5] <;> rfl) hLl) rfl rfl ?_
  refine o_rd (r_subE (c := (st.length : Int)) (by simp only [ev, val_set, ofValue, ofCell, ↓reduceIte, Nat.reduceEqDiff, v3, v4, v5] <;> rfl) (by simp only [ev, val_set, ofValue, ofCell, ↓reduceIte, Nat.reduceEqDiff, v3, v4, v5] <;> rfl) (by omega) (by omega) (by omega)) rfl rfl ?_
  refine o_rd (r_indexAddr Try.underlying22 Ty.csz24 (by simp only [ev, val_set, ofValue, ofCell, ↓reduceIte, Nat.reduceEqDiff, v3, v4, v5] <;> rfl) (by simp only [ev, val_set, ofValue, ofCell, ↓reduceIte, Nat.reduceEqDiff, v3, v4, v5] <;> rfl) (by omega)) rfl rfl ?_
  refine o_rd (r_loadN Ty.agg24 Ty.csz24 (by simp only [ev, val_set, ofValue, ofCell, ↓reduceIte, Nat.reduceEqDiff, v3, v4, v5] <;> rfl) rL) rfl rfl ?_
  refine o_nw WH (a_alloc Ty.zero24) rfl rfl rfl (by simp) ?_; intro H1 n1 W1 X1 A6
  refine o_st W1 (by simp only [ev, val_set, ofValue, ofCell, ↓reduceIte, Nat.reduceEqDiff, v3, v4, v5] <;> rfl) (by simp only [ev, val_set, ofValue, ofCell, ↓reduceIte, Nat.reduceEqDiff, v3, v4, v5] <;> rfl) A6 Ty.csz24 rfl (by decide) (by cases hS <;> rfl) rfl rfl ?_; intro H2 n2 W2 A6 K2
  refine o_nil ?_
  have E2 : Ext H H2 := Ext.put WH X1 (Nat.le_refl _) K2 n2 W2
  have rD2 := E2.read rD
  have hbl := OL.lt WH
  have hbd := OD.lt WH
  replace OL := OL.ext E2
  replace OD := OD.ext E2
  -- d := deep[len(deep)-1]
  refine w_seq (w_region ?_)
  refine o_rd (r_move (by simp only [ev, val_set, ofValue, ofCell, ↓reduceIte, Nat.reduceEqDiff, v3, v4, v5] <;> rfl)) rfl rfl ?_
  refine o_rd (r_move (by simp only [ev, val_set, ofValue, ofCell, ↓reduceIte, Nat.reduceEqDiff, v3, v4, v5] <;> rfl)) rfl rfl ?_
  refine o_rd (r_len Try.underlying28 (by simp only [ev, val_set, ofValue, ofCell, ↓reduceIte, Nat.reduceEqDiff, v3, v4, v5] <;> rfl) hLd) rfl rfl ?_
  refine o_rd (r_subE (c := (st.length : Int)) (by simp only [ev, val_set, ofValue, ofCell, ↓reduceIte, Nat.reduceEqDiff, v3, v4, v5] <;> rfl) (by simp only [ev, val_set, ofValue, ofCell, ↓reduceIte, Nat.reduceEqDiff, v3, v4, v5] <;> rfl) (by omega) (by omega) (by omega)) rfl rfl ?_
  refine o_rd (r_indexAddr Try.underlying28 Ty.csz3 (by simp only [ev, val_set, ofValue, ofCell, ↓reduceIte, Nat.reduceEqDiff, v3, v4, v5] <;> rfl) (by simp only [ev, val_set, ofValue, ofCell, ↓reduceIte, Nat.reduceEqDiff, v3, v4, v5] <;> rfl) (by omega)) rfl rfl ?_
  refine o_rd (r_load1 Ty.agg3 (by simp only [ev, val_set, ofValue, ofCell, ↓reduceIte, Nat.reduceEqDiff, v3, v4, v5] <;> rfl) rD2) rfl rfl ?_
  refine o_rd (r_assign (by simp only [ev, val_set, ofValue, ofCell, ↓reduceIte, Nat.reduceEqDiff, v3, v4, v5] <;> rfl)) rfl rfl ?_
  refine o_nil ?_
  -- both are cut
  refine w_seq (w_region ?_)
  refine o_rd (r_move (by simp only [ev, val_set, ofValue, ofCell, ↓reduceIte, Nat.reduceEqDiff, v3, v4, v5] <;> rfl)) rfl rfl ?_
  refine o_rd (r_move (by simp only [ev, val_set, ofValue, ofCell, ↓reduceIte, Nat.reduceEqDiff, v3, v4, v5] <;> rfl)) rfl rfl ?_
  refine o_rd (r_len Try.underlying22 (by simp only [ev, val_set, ofValue, ofCell, ↓reduceIte, Nat.reduceEqDiff, v3, v4, v5] <;> rfl) hLl) rfl rfl ?_
  refine o_rd (r_subE (c := (st.length : Int)) (by simp only [ev, val_set, ofValue, ofCell, ↓reduceIte, Nat.reduceEqDiff, v3, v4, v5] <;> rfl) (by simp only [ev, val_set, ofValue, ofCell, ↓reduceIte, Nat.reduceEqDiff, v3, v4, v5] <;> rfl) (by omega) (by omega) (by omega)) rfl rfl ?_
  refine o_rd (r_sliceTo Try.underlying22 Ty.csz24 (by simp only [ev, val_set, ofValue, ofCell, ↓reduceIte, Nat.reduceEqDiff, v3, v4, v5] <;> rfl) (by simp only [ev, val_set, ofValue, ofCell, ↓reduceIte, Nat.reduceEqDiff, v3, v4, v5] <;> rfl) (by omega) OL.cutOk) rfl rfl ?_
  refine o_rd (r_assign (by simp only [ev, val_set, ofValue, ofCell, ↓reduceIte, Nat.reduceEqDiff, v3, v4, v5] <;> rfl)) rfl rfl ?_
  refine o_nil ?_
  refine w_seq (w_region ?_)
  refine o_rd (r_move (by simp only [ev, val_set, ofValue, ofCell, ↓reduceIte, Nat.reduceEqDiff, v3, v4, v5] <;> rfl)) rfl rfl ?_
  refine o_rd (r_move (by simp only [ev, val_set, ofValue, ofCell, ↓reduceIte, Nat.reduceEqDiff, v3, v4, v5] <;> rfl)) rfl rfl ?_
  refine o_rd (r_len Try.underlying28 (by simp only [ev, val_set, ofValue, ofCell, ↓reduceIte, Nat.reduceEqDiff, v3, v4, v5] <;> rfl) hLd) rfl rfl ?_
  refine o_rd (r_subE (c := (st.length : Int)) (by simp only [ev, val_set, ofValue, ofCell, ↓reduceIte, Nat.reduceEqDiff, v3, v4, v5] <;> rfl) (by simp only [ev, val_set, ofValue, ofCell, ↓reduceIte, Nat.reduceEqDiff, v3, v4, v5] <;> rfl) (by omega) (by omega) (by omega)) rfl rfl ?_
  refine o_rd (r_sliceTo Try.underlying28 Ty.csz3 (by simp only [ev, val_set, ofValue, ofCell, ↓reduceIte, Nat.reduceEqDiff, v3, v4, v5] <;> rfl) (by simp only [ev, val_set, ofValue, ofCell, ↓reduceIte, Nat.reduceEqDiff, v3, v4, v5] <;> rfl) (by omega) OD.cutOk) rfl rfl ?_
  refine o_rd (r_assign (by simp only [ev, val_set, ofValue, ofCell, ↓reduceIte, Nat.reduceEqDiff, v3, v4, v5] <;> rfl)) rfl rfl ?_
  refine o_nil ?_
  replace OL := own_cut OL (Nat.le_succ st.length)
  replace OD := own_cut OD (Nat.le_succ st.length)
  rw [← hc1, List.take_left] at OL
  rw [show st.length * 1 = (st.reverse.map dcell).length by simp, List.take_left] at OD
  -- n++
  refine w_seq (w_region ?_)
  refine o_rd (r_move (by simp only [ev, val_set, ofValue, ofCell, ↓reduceIte, Nat.reduceEqDiff, v3, v4, v5] <;> rfl)) rfl rfl ?_
  refine o_rd (r_addE (c := ((n + 1 : Nat) : Int)) (by simp only [ev, val_set, ofValue, ofCell, ↓reduceIte, Nat.reduceEqDiff, v3, v4, v5] <;> rfl) (by simp only [ev, val_set, ofValue, ofCell, ↓reduceIte, Nat.reduceEqDiff, v3, v4, v5] <;> rfl) (by omega) (by omega) (by omega)) rfl rfl ?_
  refine o_rd (r_assign (by simp only [ev, val_set, ofValue, ofCell, ↓reduceIte, Nat.reduceEqDiff, v3, v4, v5] <;> rfl)) rfl rfl ?_
  refine o_nil ?_
  -- n+len(x.List) > most || d > 5000
  have rS : H2.read (.mt H.n) (0 + 2) 1 = some [sx] := read_mt A6 (by show 0 + 2 + 1 ≤ 3; omega)
  have hxl : (V.mk xk xn xl).l.length = xl.length := rfl
  have EH2 := EH.trans E2
  generalize hb6 : H.n = b6 at *
  refine w_seq (w_seq (w_region ?_))
  refine o_rd (r_move (by simp only [ev, val_set, ofValue, ofCell, ↓reduceIte, Nat.reduceEqDiff, v3, v4, v5] <;> rfl)) rfl rfl ?_
  refine o_rd (r_fieldAddr Ty.fo24_2 (by simp only [ev, val_set, ofValue, ofCell, ↓reduceIte, Nat.reduceEqDiff, v3, v4, v5] <;> rfl)) rfl rfl ?_
  refine o_rd (r_load1 Ty.agg22 (by simp only [ev, val_set, ofValue, ofCell, ↓reduceIte, Nat.reduceEqDiff, v3, v4, v5] <;> rfl) rS) rfl rfl ?_
  refine o_rd (r_len Try.underlying22 (by simp only [ev, val_set, ofValue, ofCell, ↓reduceIte, Nat.reduceEqDiff, v3, v4, v5] <;> rfl) hlx) rfl rfl ?_
  refine o_rd (r_addE (c := ((n + 1 + xl.length : Nat) : Int)) (by simp only [ev, val_set, ofValue, ofCell, ↓reduceIte, Nat.reduceEqDiff, v3, v4, v5] <;> rfl) (by simp only [ev, val_set, ofValue, ofCell, ↓reduceIte, Nat.reduceEqDiff, v3, v4, v5] <;> rfl) (by omega) (by omega) (by omega)) rfl rfl ?_
  refine o_rd (r_gt (by simp only [ev, val_set, ofValue, ofCell, ↓reduceIte, Nat.reduceEqDiff, v3, v4, v5] <;> rfl) (by simp only [ev, val_set, ofValue, ofCell, ↓reduceIte, Nat.reduceEqDiff, v3, v4, v5] <;> rfl)) rfl rfl ?_
  refine o_rd (r_move (by simp only [ev, val_set, ofValue, ofCell, ↓reduceIte, Nat.reduceEqDiff, v3, v4, v5] <;> rfl)) rfl rfl ?_
  by_cases hb1 : n + 1 + xl.length > 65536
  · have hb1' : decide ((65536 : Int) < ((n + 1 + xl.length : Nat) : Int)) = true := decide_eq_true (by omega)
    rw [hb1']
    refine o_sk rfl ((wanted_of (b := true) rfl rfl rfl (by simp only [val_set, ↓reduceIte, Nat.reduceEqDiff] <;> rfl)).trans rfl) ?_
    refine o_sk rfl ((wanted_of (b := true) rfl rfl rfl (by simp only [val_set, ↓reduceIte, Nat.reduceEqDiff] <;> rfl)).trans rfl) ?_
    refine o_rd (r_pick (t := true) (by simp only [ev, val_set, ofValue, ofCell, ↓reduceIte, Nat.reduceEqDiff, v3, v4, v5] <;> rfl) (fun _ => (by simp only [ev, val_set, ofValue, ofCell, ↓reduceIte, Nat.reduceEqDiff, v3, v4, v5] <;> rfl)) (fun h => by cases h)) rfl rfl ?_
    refine o_nil ?_
    refine w_cond (t := true) (by simp only [ev, val_set, ofValue, ofCell, ↓reduceIte, Nat.reduceEqDiff, v3, v4, v5] <;> rfl) (fun _ => ?_) (fun h => by cases h)
    refine w_seq (w_region ?_)
    refine o_rd (r_assign (by simp only [ev, val_set, ofValue, ofCell, ↓reduceIte, Nat.reduceEqDiff, v3, v4, v5] <;> rfl)) rfl rfl ?_
    refine o_nil ?_
    refine w_ret ⟨.inr rfl, rfl, _, (show resultA Try.prog [.tmp 2] _ = _ by simp only [resultA, resultsA, val_set, ↓reduceIte, Nat.reduceEqDiff, Option.map_some] <;> rfl), ?_, EH2⟩
    rw [← hg]; simp only [gr, hxl]; rw [if_pos (.inl (by omega))]
  have hb1' : decide ((65536 : Int) < ((n + 1 + xl.length : Nat) : Int)) = false := decide_eq_false (by omega)
  rw [hb1']
  refine o_rd (r_move (by simp only [ev, val_set, ofValue, ofCell, ↓reduceIte, Nat.reduceEqDiff, v3, v4, v5] <;> rfl)) rfl ((wanted_of (b := false) rfl rfl rfl (by simp only [val_set, ↓reduceIte, Nat.reduceEqDiff] <;> rfl)).trans rfl) ?_
  refine o_rd (r_gt (by simp only [ev, val_set, ofValue, ofCell, ↓reduceIte, Nat.reduceEqDiff, v3, v4, v5] <;> rfl) (by simp only [ev, val_set, ofValue, ofCell, ↓reduceIte, Nat.reduceEqDiff, v3, v4, v5] <;> rfl)) rfl ((wanted_of (b := false) rfl rfl rfl (by simp only [val_set, ↓reduceIte, Nat.reduceEqDiff] <;> rfl)).trans rfl) ?_
  refine o_rd (r_pick (t := false) (by simp only [ev, val_set, ofValue, ofCell, ↓reduceIte, Nat.reduceEqDiff, v3, v4, v5] <;> rfl) (fun h => by cases h) (fun _ => (by simp only [ev, val_set, ofValue, ofCell, ↓reduceIte, Nat.reduceEqDiff, v3, v4, v5] <;> rfl))) rfl rfl ?_
  refine o_nil ?_
  refine w_cond (by simp only [ev, val_set, ofValue, ofCell, ↓reduceIte, Nat.reduceEqDiff, v3, v4, v5] <;> rfl) (fun hc2 => ?_) (fun hc2 => ?_)
  · have hc2 := dec_t hc2
    refine w_seq (w_region ?_)
    refine o_rd (r_assign (by simp only [ev, val_set, ofValue, ofCell, ↓reduceIte, Nat.reduceEqDiff, v3, v4, v5] <;> rfl)) rfl rfl ?_
    refine o_nil ?_
    refine w_ret ⟨.inr rfl, rfl, _, (show resultA Try.prog [.tmp 2] _ = _ by simp only [resultA, resultsA, val_set, ↓reduceIte, Nat.reduceEqDiff, Option.map_some] <;> rfl), ?_, EH2⟩
    rw [← hg]; simp only [gr, hxl]; rw [if_pos (.inr (by omega))]
  have hc2 := dec_f hc2
  refine w_skip ?_
  refine w_seq ?_
  -- n+len(left)+len(x.List) > most
  refine w_seq (w_region ?_)
  refine o_rd (r_move (by simp only [ev, val_set, ofValue, ofCell, ↓reduceIte, Nat.reduceEqDiff, v3, v4, v5] <;> rfl)) rfl rfl ?_
  refine o_rd (r_move (by simp only [ev, val_set, ofValue, ofCell, ↓reduceIte, Nat.reduceEqDiff, v3, v4, v5] <;> rfl)) rfl rfl ?_
  refine o_rd (r_len (n := st.length) Try.underlying22 (by simp only [ev, val_set, ofValue, ofCell, ↓reduceIte, Nat.reduceEqDiff, v3, v4, v5] <;> rfl) rfl) rfl rfl ?_
  refine o_rd (r_addE (c := ((n + 1 + st.length : Nat) : Int)) (by simp only [ev, val_set, ofValue, ofCell, ↓reduceIte, Nat.reduceEqDiff, v3, v4, v5] <;> rfl) (by simp only [ev, val_set, ofValue, ofCell, ↓reduceIte, Nat.reduceEqDiff, v3, v4, v5] <;> rfl) (by omega) (by omega) (by omega)) rfl rfl ?_
  refine o_rd (r_fieldAddr Ty.fo24_2 (by simp only [ev, val_set, ofValue, ofCell, ↓reduceIte, Nat.reduceEqDiff, v3, v4, v5] <;> rfl)) rfl rfl ?_
  refine o_rd (r_load1 Ty.agg22 (by simp only [ev, val_set, ofValue, ofCell, ↓reduceIte, Nat.reduceEqDiff, v3, v4, v5] <;> rfl) rS) rfl rfl ?_
  refine o_rd (r_len Try.underlying22 (by simp only [ev, val_set, ofValue, ofCell, ↓reduceIte, Nat.reduceEqDiff, v3, v4, v5] <;> rfl) hlx) rfl rfl ?_
  refine o_rd (r_addE (c := ((n + 1 + st.length + xl.length : Nat) : Int)) (by simp only [ev, val_set, ofValue, ofCell, ↓reduceIte, Nat.reduceEqDiff, v3, v4, v5] <;> rfl) (by simp only [ev, val_set, ofValue, ofCell, ↓reduceIte, Nat.reduceEqDiff, v3, v4, v5] <;> rfl) (by omega) (by omega) (by omega)) rfl rfl ?_
  refine o_rd (r_gt (by simp only [ev, val_set, ofValue, ofCell, ↓reduceIte, Nat.reduceEqDiff, v3, v4, v5] <;> rfl) (by simp only [ev, val_set, ofValue, ofCell, ↓reduceIte, Nat.reduceEqDiff, v3, v4, v5] <;> rfl)) rfl rfl ?_
  refine o_nil ?_
  refine w_cond (by simp only [ev, val_set, ofValue, ofCell, ↓reduceIte, Nat.reduceEqDiff, v3, v4, v5] <;> rfl) (fun hc3 => ?_) (fun hc3 => ?_)
  · have hc3 := dec_t hc3
    refine w_seq (w_region ?_)
    refine o_rd (r_assign (by simp only [ev, val_set, ofValue, ofCell, ↓reduceIte, Nat.reduceEqDiff, v3, v4, v5] <;> rfl)) rfl rfl ?_
    refine o_nil ?_
    refine w_ret ⟨.inr rfl, rfl, _, (show resultA Try.prog [.tmp 2] _ = _ by simp only [resultA, resultsA, val_set, ↓reduceIte, Nat.reduceEqDiff, Option.map_some] <;> rfl), ?_, EH2⟩
    rw [← hg]; simp only [gr, hxl]; rw [if_neg (by omega), if_pos (by omega)]
  have hc3 := dec_f hc3
  refine w_skip ?_
  have hg' : gr m (n + 1) ((xl.map fun y => (y, d + 1)).reverse ++ st) = gr 65537 0 [(v, 1)] := by
    rw [← hg]; simp only [gr, hxl]; rw [if_neg (by omega), if_neg (by omega)]; rfl
  refine w_seq (w_region ?_)
  refine o_rd (r_assign (by simp only [ev, val_set, ofValue, ofCell, ↓reduceIte, Nat.reduceEqDiff, v3, v4, v5] <;> rfl)) rfl rfl ?_
  refine o_nil ?_
  refine w_block ?_
  refine w_loop (fun k s => ∃ (e : Env) (H : AH) (i : Nat) (sl sd : AV) (bl bd : Nat) (fl fd : Option Nat) (csl : List AV), s = ⟨e, H, []⟩ ∧ e.val 3 = sl ∧ e.val 4 = sd ∧ e.val 5 = .int .i64 ((n + 1 : Nat) : Int) ∧ e.val 6 = .ptr (.mt b6) 0 ∧ e.val 7 = .int .i64 (d : Int) ∧ e.val 8 = .int .i64 (i : Int) ∧
    Wf H ∧ Ext H0 H ∧ H.at b6 = some (.row [.int .i64 xk, .int .i64 xn, sx] 24 false none) ∧ Own H 24 3 sl (st.length + i) csl bl fl ∧ LA H0 (st.reverse.map Prod.fst ++ xl.take i) csl ∧ Own H 3 1 sd (st.length + i) (st.reverse.map dcell ++ List.replicate i (.int .i64 ((d + 1 : Nat) : Int))) bd fd ∧ Apart bl fl bd fd ∧ New H0 bl fl ∧ New H0 bd fd ∧ b6 ≠ bl ∧ b6 ≠ bd ∧ i + k = xl.length)
    xl.length ?_ ?_
  · exact ⟨_, H2, 0, _, _, bl, bd, fl, fd, c1, rfl, (by simp only [val_set, ↓reduceIte, Nat.reduceEqDiff, v3, v4, v5] <;> rfl), (by simp only [val_set, ↓reduceIte, Nat.reduceEqDiff, v3, v4, v5] <;> rfl), (by simp only [val_set, ↓reduceIte, Nat.reduceEqDiff, v3, v4, v5] <;> rfl), (by simp only [val_set, ↓reduceIte, Nat.reduceEqDiff, v3, v4, v5] <;> rfl), (by simp only [val_set, ↓reduceIte, Nat.reduceEqDiff, v3, v4, v5] <;> rfl), (by simp only [val_set, ↓reduceIte, Nat.reduceEqDiff, v3, v4, v5] <;> rfl), W2, EH2, A6, OL, by simpa using LL1, by simpa using OD, AP, NL, ND, by omega, by omega, by omega⟩
  clear LL OL OD AP NL ND hbl hbd K2 X1 A6 rS EH2 E2 EH WH W1 W2 rL rD rD2 RL RD LL1 hb1' v3 v4 v5 n1 n2 hLl hLd hdl hcl hcd
  intro k s hi
  obtain ⟨e, H, i, sl, sd, bl, bd, fl, fd, csl, rfl, v3, v4, v5, v6, v7, v8, WH, EH, A6, OL, LL, OD, AP, NL, ND, h6l, h6d, hik⟩ := hi
  have rS : H.read (.mt b6) (0 + 2) 1 = some [sx] := read_mt A6 (by show 0 + 2 + 1 ≤ 3; omega)
  refine w_seq (w_seq (w_region ?_))
  refine o_rd (r_move (by simp only [ev, val_set, ofValue, ofCell, ↓reduceIte, Nat.reduceEqDiff, v3, v4, v5, v6, v7, v8] <;> rfl)) rfl rfl ?_
  refine o_rd (r_fieldAddr Ty.fo24_2 (by simp only [ev, val_set, ofValue, ofCell, ↓reduceIte, Nat.reduceEqDiff, v3, v4, v5, v6, v7, v8] <;> rfl)) rfl rfl ?_
  refine o_rd (r_load1 Ty.agg22 (by simp only [ev, val_set, ofValue, ofCell, ↓reduceIte, Nat.reduceEqDiff, v3, v4, v5, v6, v7, v8] <;> rfl) rS) rfl rfl ?_
  refine o_rd (r_len Try.underlying22 (by simp only [ev, val_set, ofValue, ofCell, ↓reduceIte, Nat.reduceEqDiff, v3, v4, v5, v6, v7, v8] <;> rfl) hlx) rfl rfl ?_
  refine o_rd (r_lt (by simp only [ev, val_set, ofValue, ofCell, ↓reduceIte, Nat.reduceEqDiff, v3, v4, v5, v6, v7, v8] <;> rfl) (by simp only [ev, val_set, ofValue, ofCell, ↓reduceIte, Nat.reduceEqDiff, v3, v4, v5, v6, v7, v8] <;> rfl)) rfl rfl ?_
  refine o_nil ?_
  refine w_cond (by simp only [ev, val_set, ofValue, ofCell, ↓reduceIte, Nat.reduceEqDiff, v3, v4, v5, v6, v7, v8] <;> rfl) (fun hc => ?_) (fun hc => ?_)
  case refine_2 =>
    have hc := dec_f hc
    obtain rfl : i = xl.length := by omega
    refine w_exit (blk_exit ?_)
    refine ⟨m, by omega, _, H, n + 1, (xl.map fun y => (y, d + 1)).reverse ++ st, sl, sd, bl, bd, fl, fd, csl, rfl, (by simp only [val_set, ↓reduceIte, Nat.reduceEqDiff, v3, v4, v5, v6, v7, v8] <;> rfl), (by simp only [val_set, ↓reduceIte, Nat.reduceEqDiff, v3, v4, v5, v6, v7, v8] <;> rfl), (by simp only [val_set, ↓reduceIte, Nat.reduceEqDiff, v3, v4, v5, v6, v7, v8] <;> rfl), WH, EH, ?_, ?_, ?_, AP, NL, ND, by omega, by simp; omega, ?_, hg'⟩
    · simpa [Nat.add_comm] using OL
    · rw [List.take_length] at LL
      simpa [List.map_map, Function.comp_def] using LL
    · have e1 : (((xl.map fun y => (y, d + 1)).reverse ++ st).reverse.map dcell) = st.reverse.map dcell ++ List.replicate xl.length (.int .i64 ((d + 1 : Nat) : Int)) := by
        simp [List.map_map, Function.comp_def, dcell, List.map_const']
      rw [e1]; simpa [Nat.add_comm] using OD
    · intro p hp
      rcases List.mem_append.1 hp with hp | hp
      · simp at hp; obtain ⟨y, _, rfl⟩ := hp; simp; omega
      · exact hd5 p (List.mem_cons_of_mem _ hp)
  have hc := dec_t hc
  have hi : i < xl.length := by omega
  refine w_skip ?_
  obtain ⟨loc, off, cap, ce, rfl, hrd, hva⟩ := hS.get hi
  replace hrd := EH.read hrd
  have hcl := hva.len
  refine w_seq (w_block (w_seq (w_region ?_)))
  refine o_rd (r_move (by simp only [ev, val_set, ofValue, ofCell, ↓reduceIte, Nat.reduceEqDiff, v3, v4, v5, v6, v7, v8] <;> rfl)) rfl rfl ?_
  refine o_rd (r_fieldAddr Ty.fo24_2 (by simp only [ev, val_set, ofValue, ofCell, ↓reduceIte, Nat.reduceEqDiff, v3, v4, v5, v6, v7, v8] <;> rfl)) rfl rfl ?_
  refine o_rd (r_load1 Ty.agg22 (by simp only [ev, val_set, ofValue, ofCell, ↓reduceIte, Nat.reduceEqDiff, v3, v4, v5, v6, v7, v8] <;> rfl) rS) rfl rfl ?_
  refine o_rd (r_move (by simp only [ev, val_set, ofValue, ofCell, ↓reduceIte, Nat.reduceEqDiff, v3, v4, v5, v6, v7, v8] <;> rfl)) rfl rfl ?_
  refine o_rd (r_indexAddr Try.underlying22 Ty.csz24 (by simp only [ev, val_set, ofValue, ofCell, ↓reduceIte, Nat.reduceEqDiff, v3, v4, v5, v6, v7, v8] <;> rfl) (by simp only [ev, val_set, ofValue, ofCell, ↓reduceIte, Nat.reduceEqDiff, v3, v4, v5, v6, v7, v8] <;> rfl) hi) rfl rfl ?_
  refine o_rd (r_loadN Ty.agg24 Ty.csz24 (by simp only [ev, val_set, ofValue, ofCell, ↓reduceIte, Nat.reduceEqDiff, v3, v4, v5, v6, v7, v8] <;> rfl) hrd) rfl rfl ?_
  refine o_nw WH (a_build1 Try.underlying22 Ty.csz24 Ty.zero24 rfl (by simp only [ev, val_set, ofValue, ofCell, ↓reduceIte, Nat.reduceEqDiff, v3, v4, v5, v6, v7, v8] <;> rfl) (by exact hcl) (by decide)) rfl rfl rfl (by simp) ?_; intro H1 n1 W1 X1 A71
  have hl1 := OL.lt WH
  have hl2 := OD.lt WH
  have hl6 := WH.lt A6
  replace A6 := X1.keep _ _ A6
  replace OL := OL.ext X1
  replace OD := OD.ext X1
  have E1 := EH.trans X1
  have hfd : ∀ f, fd = some f → f < H1.n := fun f hf => OD.famlt W1 hf
  refine o_ap W1 Try.underlying22 Try.underlying22 rfl Ty.csz24 Ty.byt24 Ty.zero24 rfl (by simp only [ev, val_set, ofValue, ofCell, ↓reduceIte, Nat.reduceEqDiff, v3, v4, v5, v6, v7, v8] <;> rfl) (by simp only [ev, val_set, ofValue, ofCell, ↓reduceIte, Nat.reduceEqDiff, v3, v4, v5, v6, v7, v8] <;> rfl) OL (src_fresh (n := 1) A71 (by exact hcl)) (by show ce.length = _; omega) (by exact hva.ones) (by omega) rfl rfl ?_; intro s2 H2 bl2 fl2 OL2 W2 l2 u2 p2 q2 K2
  refine o_rd (r_assign (by simp only [ev, val_set, ofValue, ofCell, ↓reduceIte, Nat.reduceEqDiff, v3, v4, v5, v6, v7, v8] <;> rfl)) rfl rfl ?_
  refine o_nil ?_
  have E2 := Ext.keeps W0 E1 NL K2 l2 W2
  replace A6 := K2.at A6 h6l rfl
  replace OD := OD.other K2 AP.symm
  have NL2 := NL.step (by have := E1.n; omega) p2 q2
  have AP2 := AP.step (by omega) hfd p2 q2
  have h6l2 : b6 ≠ bl2 := by rcases p2 with h | h <;> omega
  -- deep = append(deep, d+1)
  refine w_region ?_
  refine o_rd (r_move (by simp only [ev, val_set, ofValue, ofCell, ↓reduceIte, Nat.reduceEqDiff, v3, v4, v5, v6, v7, v8] <;> rfl)) rfl rfl ?_
  refine o_rd (r_move (by simp only [ev, val_set, ofValue, ofCell, ↓reduceIte, Nat.reduceEqDiff, v3, v4, v5, v6, v7, v8] <;> rfl)) rfl rfl ?_
  refine o_rd (r_addE (c := ((d + 1 : Nat) : Int)) (by simp only [ev, val_set, ofValue, ofCell, ↓reduceIte, Nat.reduceEqDiff, v3, v4, v5, v6, v7, v8] <;> rfl) (by simp only [ev, val_set, ofValue, ofCell, ↓reduceIte, Nat.reduceEqDiff, v3, v4, v5, v6, v7, v8] <;> rfl) (by omega) (by omega) (by omega)) rfl rfl ?_
  refine o_nw W2 (a_build1 Try.underlying28 Ty.csz3 Ty.zero3 rfl (by simp only [ev, val_set, ofValue, ofCell, ↓reduceIte, Nat.reduceEqDiff, v3, v4, v5, v6, v7, v8] <;> rfl) rfl (by decide)) rfl rfl rfl (by simp) ?_; intro H3 n3 W3 X3 A76
  have hfl2 : ∀ f, fl2 = some f → f < H3.n := fun f hf => by have := OL2.famlt W2 hf; omega
  have hbl2 := OL2.lt W2
  have hbd2 := OD.lt W2
  replace A6 := X3.keep _ _ A6
  replace OL2 := OL2.ext X3
  replace OD := OD.ext X3
  have E3 := E2.trans X3
  refine o_ap W3 Try.underlying28 Try.underlying28 rfl Ty.csz3 Ty.byt3 Ty.zero3 rfl (by simp only [ev, val_set, ofValue, ofCell, ↓reduceIte, Nat.reduceEqDiff, v3, v4, v5, v6, v7, v8] <;> rfl) (by simp only [ev, val_set, ofValue, ofCell, ↓reduceIte, Nat.reduceEqDiff, v3, v4, v5, v6, v7, v8] <;> rfl) OD (src_fresh (n := 1) A76 rfl) rfl rfl (by omega) rfl rfl ?_; intro s4 H4 bd4 fd4 OD4 W4 l4 u4 p4 q4 K4
  refine o_rd (r_assign (by simp only [ev, val_set, ofValue, ofCell, ↓reduceIte, Nat.reduceEqDiff, v3, v4, v5, v6, v7, v8] <;> rfl)) rfl rfl ?_
  refine o_nil ?_
  have E4 := Ext.keeps W0 E3 ND K4 l4 W4
  replace A6 := K4.at A6 h6d rfl
  replace OL2 := OL2.other K4 AP2
  have ND4 := ND.step (by have := E3.n; omega) p4 q4
  have AP4 := AP2.symm.step (by omega) hfl2 p4 q4
  have h6d4 : b6 ≠ bd4 := by rcases p4 with h | h <;> omega
  -- i++
  refine w_region ?_
  refine o_rd (r_move (by simp only [ev, val_set, ofValue, ofCell, ↓reduceIte, Nat.reduceEqDiff, v3, v4, v5, v6, v7, v8] <;> rfl)) rfl rfl ?_
  refine o_rd (r_addE (c := ((i + 1 : Nat) : Int)) (by simp only [ev, val_set, ofValue, ofCell, ↓reduceIte, Nat.reduceEqDiff, v3, v4, v5, v6, v7, v8] <;> rfl) (by simp only [ev, val_set, ofValue, ofCell, ↓reduceIte, Nat.reduceEqDiff, v3, v4, v5, v6, v7, v8] <;> rfl) (by omega) (by omega) (by omega)) rfl rfl ?_
  refine o_rd (r_assign (by simp only [ev, val_set, ofValue, ofCell, ↓reduceIte, Nat.reduceEqDiff, v3, v4, v5, v6, v7, v8] <;> rfl)) rfl rfl ?_
  refine o_nil ?_
  obtain ⟨k, rfl⟩ : ∃ j, k = j + 1 := ⟨k - 1, by omega⟩
  refine ⟨k, by omega, _, H4, i + 1, s2, s4, bl2, bd4, fl2, fd4, _, rfl, (by simp only [val_set, ↓reduceIte, Nat.reduceEqDiff, v3, v4, v5, v6, v7, v8] <;> rfl), (by simp only [val_set, ↓reduceIte, Nat.reduceEqDiff, v3, v4, v5, v6, v7, v8] <;> rfl), (by simp only [val_set, ↓reduceIte, Nat.reduceEqDiff, v3, v4, v5, v6, v7, v8] <;> rfl), (by simp only [val_set, ↓reduceIte, Nat.reduceEqDiff, v3, v4, v5, v6, v7, v8] <;> rfl), (by simp only [val_set, ↓reduceIte, Nat.reduceEqDiff, v3, v4, v5, v6, v7, v8] <;> rfl), (by simp only [val_set, ↓reduceIte, Nat.reduceEqDiff, v3, v4, v5, v6, v7, v8] <;> rfl), W4, E4, A6, OL2, ?_, ?_, AP4.symm, NL2, ND4, h6l2, h6d4, by omega⟩
  · rw [List.take_succ_eq_append_getElem hi, ← List.append_assoc]
    exact LL.append (LA.one hva)
  · rw [List.replicate_succ', ← List.append_assoc]; exact OD4
end Go.Proofs.Ytenfjdkeikjhlaa.Vs
