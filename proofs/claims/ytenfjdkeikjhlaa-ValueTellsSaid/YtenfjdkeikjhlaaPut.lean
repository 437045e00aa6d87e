/-
  put of the reference: a number laid into a list that rises.
-/
import Derived.Test.YtenfjdkeikjhlaaTy
import Derived.Test.YtenfjdkeikjhlaaVjV
import Derived.Test.YtenfjdkeikjhlaaVjT
set_option autoImplicit false
set_option linter.unusedVariables false
set_option linter.unusedSimpArgs false
namespace Go.Proofs.Ytenfjdkeikjhlaa.Vs
open Go.VI Go.Proofs
variable {orc : CallF}
theorem src_drop {H : AH} {la : List Int} {o c b0 b j : Nat} {f : Option Nat} (O : Own H 3 1 (.sl (.mt b0) o la.length c) la.length (la.map (AV.int .i64)) b f) (hj : j ≤ la.length) :
    srcCells H 1 (.sl (.mt b0) (o + j * (0 + 1)) (la.length - j) (c - j)) = some (la.length - j, (la.drop j).map (AV.int .i64)) := by
  have hr := (own_read O).2.2
  have := read_part hr (o := j) (m := la.length - j) (by omega)
  rw [List.take_of_length_le (by simp)] at this
  simp only [srcCells, Nat.mul_one, Nat.zero_add, this, List.map_drop]
theorem ones_int : ∀ zs : List Int, ones (zs.map (AV.int .i64)) = true
  | [] => rfl
  | z :: r => by simp only [List.map_cons, ones, AV.one, ones_int r]
theorem own_get {H : AH} {la : List Int} {o c b0 b : Nat} {f : Option Nat} (O : Own H 3 1 (.sl (.mt b0) o la.length c) la.length (la.map (AV.int .i64)) b f) {i : Nat} (hi : i < la.length) : H.read (.mt b0) (o + i * 1) 1 = some [.int .i64 la[i]] := by
  have hr := (own_read O).2.2
  have := read_part hr (o := i) (m := 1) (by omega)
  rw [Nat.mul_one, this]
  simp [List.take_one, List.head?_drop, hi]
set_option maxRecDepth 100000 in
set_option maxHeartbeats 4000000 in
theorem put_fin (ho : NoOrcBut [9, 35, 36] orc) {H0 : AH} (W0 : Wf H0) (x : Int) (la : List Int) (b0 o0 c0 : Nat) (f0 : Option Nat) (O0 : Own H0 3 1 (.sl (.mt b0) o0 la.length c0) la.length (la.map (AV.int .i64)) b0 f0) (hRi : Rise la) (hN : la.length ≤ 1000000) : Fin Try.prog orc 38 [.sl (.mt b0) (o0) (la.length) c0, .int .i64 (x)] H0 (fun r H' => ∃ l' s' b' f', s' = r ∧ Own H' 3 1 s' l'.length (l'.map (AV.int .i64)) b' f' ∧ New H0 b' f' ∧ Rise l' ∧ (∀ n, n ∈ l' ↔ n = x ∨ n ∈ la) ∧ l'.length ≤ la.length + 1 ∧ Ext H0 H') := by
  have E0 := Ext.refl W0
  have hc0 := (own_read O0).2.1
  refine fin_of Try.func38 rfl (by rw [Try.ntmps38]; simp) (ho _ rfl _ _) ?_
  rw [Try.ntmps38]
  refine w_seq ?_
  refine w_region ?_
  refine o_rd (r_assign (by simp only [ev, envOf, val_set, ofValue, ofCell, ↓reduceIte, Nat.reduceEqDiff] <;> rfl)) rfl rfl ?_
  refine o_nil ?_
  refine w_seq ?_
  refine w_region ?_
  refine o_nw W0 (a_build0 Try.underlying28 Ty.csz3 Ty.zero3 rfl) rfl rfl rfl (by simp) ?_; intro H1 n1 W1 X1 A1
  have E1 := E0.trans X1
  have O1 : Own H1 3 1 (freshSl (H0.n) 0 0) 0 [] (H0.n) none := own_fresh (n := 0) (e := 1) A1 rfl
  have hN1 : New H0 (H0.n) none := ⟨E0.n, fun f h => by cases h⟩
  refine o_rd (r_assign (by simp only [ev, envOf, val_set, ofValue, ofCell, ↓reduceIte, Nat.reduceEqDiff] <;> rfl)) rfl rfl ?_
  refine o_nil ?_
  refine w_seq ?_
  refine w_region ?_
  refine o_rd (r_assign (by simp only [ev, envOf, val_set, ofValue, ofCell, ↓reduceIte, Nat.reduceEqDiff] <;> rfl)) rfl rfl ?_
  refine o_nil ?_
  refine w_seq ?_
  refine w_block ?_
  refine w_loop (fun m s => ∃ (e : Env) (H : AH) (i : Nat) (so : AV) (bo : Nat) (fo : Option Nat), s = ⟨e, H, []⟩ ∧ e.val 0 = .sl (.mt b0) (o0) (la.length) c0 ∧ e.val 1 = .int .i64 (x) ∧ e.val 4 = .nils ∧ e.val 5 = so ∧ e.val 6 = .int .i64 (((i : Nat) : Int)) ∧ Wf H ∧ Ext H0 H ∧ (Own H 3 1 so i ((la.take i).map (AV.int .i64)) bo fo) ∧ (New H0 bo fo) ∧ (∀ j (hj : j < la.length), j < i → la[j] < x) ∧ (i + m = la.length)) (la.length) ⟨_, H1, 0, _, _, none, rfl, (by simp only [val_set, ↓reduceIte, Nat.reduceEqDiff] <;> rfl), (by simp only [val_set, ↓reduceIte, Nat.reduceEqDiff] <;> rfl), (by simp only [val_set, ↓reduceIte, Nat.reduceEqDiff] <;> rfl), (by simp only [val_set, ↓reduceIte, Nat.reduceEqDiff] <;> rfl), (by simp only [val_set, ↓reduceIte, Nat.reduceEqDiff] <;> rfl), W1, E1, O1, hN1, (by intro j hj h; omega), (by omega)⟩ ?_
  intro m s hi
  obtain ⟨e, H2, i, so, bo, fo, rfl, v0, v1, v4, v5, v6, W2, E2, O, hN, hlt, him⟩ := hi
  refine w_seq ?_
  refine w_seq ?_
  refine w_region ?_
  refine o_rd (r_move (by simp only [ev, envOf, val_set, ofValue, ofCell, ↓reduceIte, Nat.reduceEqDiff, v0, v1, v4, v5, v6] <;> rfl)) rfl rfl ?_
  refine o_rd (r_move (by simp only [ev, envOf, val_set, ofValue, ofCell, ↓reduceIte, Nat.reduceEqDiff, v0, v1, v4, v5, v6] <;> rfl)) rfl rfl ?_
  refine o_rd (r_len (n := la.length) Try.underlying28 (by simp only [ev, envOf, val_set, ofValue, ofCell, ↓reduceIte, Nat.reduceEqDiff, v0, v1, v4, v5, v6] <;> rfl) rfl) rfl rfl ?_
  refine o_rd (r_lt (a := ((i : Nat) : Int)) (b := ((la.length : Nat) : Int)) (by simp only [ev, envOf, val_set, ofValue, ofCell, ↓reduceIte, Nat.reduceEqDiff, v0, v1, v4, v5, v6] <;> rfl) (by simp only [ev, envOf, val_set, ofValue, ofCell, ↓reduceIte, Nat.reduceEqDiff, v0, v1, v4, v5, v6] <;> rfl)) rfl rfl ?_
  refine o_rd (r_move (by simp only [ev, envOf, val_set, ofValue, ofCell, ↓reduceIte, Nat.reduceEqDiff, v0, v1, v4, v5, v6] <;> rfl)) rfl rfl ?_
  cases hg3 : (decide (((i : Nat) : Int) < ((la.length : Nat) : Int)) : Bool)
  · have hg3 := dec_f hg3
    refine o_sk rfl ((wanted_of (b := false) rfl rfl rfl (by simp only [val_set, ↓reduceIte, Nat.reduceEqDiff, v0, v1, v4, v5, v6] <;> rfl)).trans rfl) ?_
    refine o_sk rfl ((wanted_of (b := false) rfl rfl rfl (by simp only [val_set, ↓reduceIte, Nat.reduceEqDiff, v0, v1, v4, v5, v6] <;> rfl)).trans rfl) ?_
    refine o_sk rfl ((wanted_of (b := false) rfl rfl rfl (by simp only [val_set, ↓reduceIte, Nat.reduceEqDiff, v0, v1, v4, v5, v6] <;> rfl)).trans rfl) ?_
    refine o_sk rfl ((wanted_of (b := false) rfl rfl rfl (by simp only [val_set, ↓reduceIte, Nat.reduceEqDiff, v0, v1, v4, v5, v6] <;> rfl)).trans rfl) ?_
    refine o_sk rfl ((wanted_of (b := false) rfl rfl rfl (by simp only [val_set, ↓reduceIte, Nat.reduceEqDiff, v0, v1, v4, v5, v6] <;> rfl)).trans rfl) ?_
    refine o_sk rfl ((wanted_of (b := false) rfl rfl rfl (by simp only [val_set, ↓reduceIte, Nat.reduceEqDiff, v0, v1, v4, v5, v6] <;> rfl)).trans rfl) ?_
    refine o_rd (r_pick (t := false) (by simp only [ev, envOf, val_set, ofValue, ofCell, ↓reduceIte, Nat.reduceEqDiff, v0, v1, v4, v5, v6] <;> rfl) (fun h => by cases h) (fun _ => (by simp only [ev, envOf, val_set, ofValue, ofCell, ↓reduceIte, Nat.reduceEqDiff, v0, v1, v4, v5, v6] <;> rfl))) rfl rfl ?_
    refine o_nil ?_
    refine w_cond (t := false) (by simp only [ev, envOf, val_set, ofValue, ofCell, ↓reduceIte, Nat.reduceEqDiff, v0, v1, v4, v5, v6] <;> rfl) (fun h => by cases h) (fun _ => ?_)
    refine w_exit (blk_exit ?_)
    refine w_seq ?_
    refine w_region ?_
    refine o_rd (r_move (by simp only [ev, envOf, val_set, ofValue, ofCell, ↓reduceIte, Nat.reduceEqDiff, v0, v1, v4, v5, v6] <;> rfl)) rfl rfl ?_
    refine o_rd (r_move (by simp only [ev, envOf, val_set, ofValue, ofCell, ↓reduceIte, Nat.reduceEqDiff, v0, v1, v4, v5, v6] <;> rfl)) rfl rfl ?_
    refine o_nw W2 (a_build1 Try.underlying28 Ty.csz3 Ty.zero3 rfl (by simp only [ev, envOf, val_set, ofValue, ofCell, ↓reduceIte, Nat.reduceEqDiff, v0, v1, v4, v5, v6] <;> rfl) rfl (by decide)) rfl rfl rfl (by simp) ?_; intro H4 n4 W4 X4 A4
    have E4 := E2.trans X4
    have O4 := O.ext X4
    refine o_ap W4 Try.underlying28 Try.underlying28 rfl Ty.csz3 Ty.byt3 Ty.zero3 rfl (by simp only [ev, envOf, val_set, ofValue, ofCell, ↓reduceIte, Nat.reduceEqDiff, v0, v1, v4, v5, v6] <;> rfl) (by simp only [ev, envOf, val_set, ofValue, ofCell, ↓reduceIte, Nat.reduceEqDiff, v0, v1, v4, v5, v6] <;> rfl) O4 (src_fresh (n := 1) A4 rfl) (rfl) (rfl) (by omega) rfl rfl ?_; intro s5 H5 bs5 fs5 O5 W5 l5 u5 p5 q5 K5
    have E5 := Ext.keeps W0 E4 hN K5 l5 W5
    have N5 := hN.step E4.n p5 q5
    refine o_rd (r_assign (by simp only [ev, envOf, val_set, ofValue, ofCell, ↓reduceIte, Nat.reduceEqDiff, v0, v1, v4, v5, v6] <;> rfl)) rfl rfl ?_
    refine o_nil ?_
    refine w_seq ?_
    refine w_seq ?_
    refine w_region ?_
    refine o_rd (r_move (by simp only [ev, envOf, val_set, ofValue, ofCell, ↓reduceIte, Nat.reduceEqDiff, v0, v1, v4, v5, v6] <;> rfl)) rfl rfl ?_
    refine o_rd (r_move (by simp only [ev, envOf, val_set, ofValue, ofCell, ↓reduceIte, Nat.reduceEqDiff, v0, v1, v4, v5, v6] <;> rfl)) rfl rfl ?_
    refine o_rd (r_len (n := la.length) Try.underlying28 (by simp only [ev, envOf, val_set, ofValue, ofCell, ↓reduceIte, Nat.reduceEqDiff, v0, v1, v4, v5, v6] <;> rfl) rfl) rfl rfl ?_
    refine o_rd (r_lt (a := ((i : Nat) : Int)) (b := ((la.length : Nat) : Int)) (by simp only [ev, envOf, val_set, ofValue, ofCell, ↓reduceIte, Nat.reduceEqDiff, v0, v1, v4, v5, v6] <;> rfl) (by simp only [ev, envOf, val_set, ofValue, ofCell, ↓reduceIte, Nat.reduceEqDiff, v0, v1, v4, v5, v6] <;> rfl)) rfl rfl ?_
    refine o_rd (r_move (by simp only [ev, envOf, val_set, ofValue, ofCell, ↓reduceIte, Nat.reduceEqDiff, v0, v1, v4, v5, v6] <;> rfl)) rfl rfl ?_
    cases hg6 : (decide (((i : Nat) : Int) < ((la.length : Nat) : Int)) : Bool)
    · have hg6 := dec_f hg6
      refine o_sk rfl ((wanted_of (b := false) rfl rfl rfl (by simp only [val_set, ↓reduceIte, Nat.reduceEqDiff, v0, v1, v4, v5, v6] <;> rfl)).trans rfl) ?_
      refine o_sk rfl ((wanted_of (b := false) rfl rfl rfl (by simp only [val_set, ↓reduceIte, Nat.reduceEqDiff, v0, v1, v4, v5, v6] <;> rfl)).trans rfl) ?_
      refine o_sk rfl ((wanted_of (b := false) rfl rfl rfl (by simp only [val_set, ↓reduceIte, Nat.reduceEqDiff, v0, v1, v4, v5, v6] <;> rfl)).trans rfl) ?_
      refine o_sk rfl ((wanted_of (b := false) rfl rfl rfl (by simp only [val_set, ↓reduceIte, Nat.reduceEqDiff, v0, v1, v4, v5, v6] <;> rfl)).trans rfl) ?_
      refine o_sk rfl ((wanted_of (b := false) rfl rfl rfl (by simp only [val_set, ↓reduceIte, Nat.reduceEqDiff, v0, v1, v4, v5, v6] <;> rfl)).trans rfl) ?_
      refine o_sk rfl ((wanted_of (b := false) rfl rfl rfl (by simp only [val_set, ↓reduceIte, Nat.reduceEqDiff, v0, v1, v4, v5, v6] <;> rfl)).trans rfl) ?_
      refine o_rd (r_pick (t := false) (by simp only [ev, envOf, val_set, ofValue, ofCell, ↓reduceIte, Nat.reduceEqDiff, v0, v1, v4, v5, v6] <;> rfl) (fun h => by cases h) (fun _ => (by simp only [ev, envOf, val_set, ofValue, ofCell, ↓reduceIte, Nat.reduceEqDiff, v0, v1, v4, v5, v6] <;> rfl))) rfl rfl ?_
      refine o_nil ?_
      refine w_cond (t := false) (by simp only [ev, envOf, val_set, ofValue, ofCell, ↓reduceIte, Nat.reduceEqDiff, v0, v1, v4, v5, v6] <;> rfl) (fun h => by cases h) (fun _ => ?_)
      refine w_skip ?_
      refine w_seq ?_
      refine w_region ?_
      refine o_rd (r_move (by simp only [ev, envOf, val_set, ofValue, ofCell, ↓reduceIte, Nat.reduceEqDiff, v0, v1, v4, v5, v6] <;> rfl)) rfl rfl ?_
      refine o_rd (r_move (by simp only [ev, envOf, val_set, ofValue, ofCell, ↓reduceIte, Nat.reduceEqDiff, v0, v1, v4, v5, v6] <;> rfl)) rfl rfl ?_
      refine o_rd (r_move (by simp only [ev, envOf, val_set, ofValue, ofCell, ↓reduceIte, Nat.reduceEqDiff, v0, v1, v4, v5, v6] <;> rfl)) rfl rfl ?_
      refine o_rd (r_sliceFrom (j := i) Try.underlying28 Ty.csz3 (by simp only [ev, envOf, val_set, ofValue, ofCell, ↓reduceIte, Nat.reduceEqDiff, v0, v1, v4, v5, v6] <;> rfl) (by simp only [ev, envOf, val_set, ofValue, ofCell, ↓reduceIte, Nat.reduceEqDiff, v0, v1, v4, v5, v6] <;> rfl) (by omega) hc0 (O0.ext E5).cutOk) rfl rfl ?_
      refine o_ap W5 Try.underlying28 Try.underlying28 rfl Ty.csz3 Ty.byt3 Ty.zero3 rfl (by simp only [ev, envOf, val_set, ofValue, ofCell, ↓reduceIte, Nat.reduceEqDiff, v0, v1, v4, v5, v6] <;> rfl) (by simp only [ev, envOf, val_set, ofValue, ofCell, ↓reduceIte, Nat.reduceEqDiff, v0, v1, v4, v5, v6] <;> rfl) O5 (src_drop (j := i) (O0.ext E5) (by omega)) (by simp) (ones_int _) (by omega) rfl rfl ?_; intro s7 H7 bs7 fs7 O7 W7 l7 u7 p7 q7 K7
      have E7 := Ext.keeps W0 E5 N5 K7 l7 W7
      have N7 := N5.step E5.n p7 q7
      refine o_rd (r_assign (by simp only [ev, envOf, val_set, ofValue, ofCell, ↓reduceIte, Nat.reduceEqDiff, v0, v1, v4, v5, v6] <;> rfl)) rfl rfl ?_
      refine o_nil ?_
      refine w_ret ⟨.inr rfl, rfl, s7, (show resultA Try.prog [.tmp 4] _ = _ by simp only [resultA, resultsA, envOf, val_set, ↓reduceIte, Nat.reduceEqDiff, Option.map_some, v0, v1, v4, v5, v6] <;> rfl), ?_⟩
      try dsimp only
      have hput := putL_ok (x := x) hRi (i := i) (by omega) hlt (by intro hj; omega)
      have hq : putL la i x = la.take i ++ ([x] ++ la.drop (i)) := by unfold putL; rw [if_neg (by intro hs; obtain ⟨q1, q2⟩ := List.getElem?_eq_some_iff.1 hs; omega)]
      refine ⟨putL la i x, _, _, _, rfl, ?_, N7, hput.1, hput.2, (by rw [hq]; simp only [List.length_append, List.length_take, List.length_cons, List.length_nil, List.length_drop]; omega), E7⟩
      have hO := O7
      rw [hq]; simp only [List.map_append, List.map_cons, List.map_nil, List.length_append, List.length_take, List.length_cons, List.length_nil, List.length_drop, List.append_assoc] at hO ⊢
      rw [show min i la.length + (0 + 1 + (la.length - (i))) = i + 1 + (la.length - (i)) by omega]; exact hO
    · have hg6 := dec_t hg6
      refine o_rd (r_move (by simp only [ev, envOf, val_set, ofValue, ofCell, ↓reduceIte, Nat.reduceEqDiff, v0, v1, v4, v5, v6] <;> rfl)) rfl ((wanted_of (b := true) rfl rfl rfl (by simp only [val_set, ↓reduceIte, Nat.reduceEqDiff, v0, v1, v4, v5, v6] <;> rfl)).trans rfl) ?_
      refine o_rd (r_move (by simp only [ev, envOf, val_set, ofValue, ofCell, ↓reduceIte, Nat.reduceEqDiff, v0, v1, v4, v5, v6] <;> rfl)) rfl ((wanted_of (b := true) rfl rfl rfl (by simp only [val_set, ↓reduceIte, Nat.reduceEqDiff, v0, v1, v4, v5, v6] <;> rfl)).trans rfl) ?_
      have hi1 : i < la.length := by omega
      refine o_rd (r_indexAddr Try.underlying28 Ty.csz3 (by simp only [ev, envOf, val_set, ofValue, ofCell, ↓reduceIte, Nat.reduceEqDiff, v0, v1, v4, v5, v6] <;> rfl) (by simp only [ev, envOf, val_set, ofValue, ofCell, ↓reduceIte, Nat.reduceEqDiff, v0, v1, v4, v5, v6] <;> rfl) hi1) rfl ((wanted_of (b := true) rfl rfl rfl (by simp only [val_set, ↓reduceIte, Nat.reduceEqDiff, v0, v1, v4, v5, v6] <;> rfl)).trans rfl) ?_
      refine o_rd (r_load1 Ty.agg3 (by simp only [ev, envOf, val_set, ofValue, ofCell, ↓reduceIte, Nat.reduceEqDiff, v0, v1, v4, v5, v6] <;> rfl) (own_get (O0.ext E5) hi1)) rfl ((wanted_of (b := true) rfl rfl rfl (by simp only [val_set, ↓reduceIte, Nat.reduceEqDiff, v0, v1, v4, v5, v6] <;> rfl)).trans rfl) ?_
      refine o_rd (r_move (by simp only [ev, envOf, val_set, ofValue, ofCell, ↓reduceIte, Nat.reduceEqDiff, v0, v1, v4, v5, v6] <;> rfl)) rfl ((wanted_of (b := true) rfl rfl rfl (by simp only [val_set, ↓reduceIte, Nat.reduceEqDiff, v0, v1, v4, v5, v6] <;> rfl)).trans rfl) ?_
      refine o_rd (r_eq (a := la[i]) (b := x) (by simp only [ev, envOf, val_set, ofValue, ofCell, ↓reduceIte, Nat.reduceEqDiff, v0, v1, v4, v5, v6] <;> rfl) (by simp only [ev, envOf, val_set, ofValue, ofCell, ↓reduceIte, Nat.reduceEqDiff, v0, v1, v4, v5, v6] <;> rfl)) rfl ((wanted_of (b := true) rfl rfl rfl (by simp only [val_set, ↓reduceIte, Nat.reduceEqDiff, v0, v1, v4, v5, v6] <;> rfl)).trans rfl) ?_
      refine o_rd (r_pick (t := true) (by simp only [ev, envOf, val_set, ofValue, ofCell, ↓reduceIte, Nat.reduceEqDiff, v0, v1, v4, v5, v6] <;> rfl) (fun _ => (by simp only [ev, envOf, val_set, ofValue, ofCell, ↓reduceIte, Nat.reduceEqDiff, v0, v1, v4, v5, v6] <;> rfl)) (fun h => by cases h)) rfl rfl ?_
      refine o_nil ?_
      refine w_cond (by simp only [ev, envOf, val_set, ofValue, ofCell, ↓reduceIte, Nat.reduceEqDiff, v0, v1, v4, v5, v6] <;> rfl) (fun hc8 => ?_) (fun hc8 => ?_)
      · have hc8 := dec_t hc8
        refine w_region ?_
        refine o_rd (r_move (by simp only [ev, envOf, val_set, ofValue, ofCell, ↓reduceIte, Nat.reduceEqDiff, v0, v1, v4, v5, v6] <;> rfl)) rfl rfl ?_
        refine o_rd (r_addE (a := ((i : Nat) : Int)) (b := 1) (c := ((i + 1 : Nat) : Int)) (by simp only [ev, envOf, val_set, ofValue, ofCell, ↓reduceIte, Nat.reduceEqDiff, v0, v1, v4, v5, v6] <;> rfl) (by simp only [ev, envOf, val_set, ofValue, ofCell, ↓reduceIte, Nat.reduceEqDiff, v0, v1, v4, v5, v6] <;> rfl) (by omega) (by omega) (by omega)) rfl rfl ?_
        refine o_rd (r_assign (by simp only [ev, envOf, val_set, ofValue, ofCell, ↓reduceIte, Nat.reduceEqDiff, v0, v1, v4, v5, v6] <;> rfl)) rfl rfl ?_
        refine o_nil ?_
        refine w_seq ?_
        refine w_region ?_
        refine o_rd (r_move (by simp only [ev, envOf, val_set, ofValue, ofCell, ↓reduceIte, Nat.reduceEqDiff, v0, v1, v4, v5, v6] <;> rfl)) rfl rfl ?_
        refine o_rd (r_move (by simp only [ev, envOf, val_set, ofValue, ofCell, ↓reduceIte, Nat.reduceEqDiff, v0, v1, v4, v5, v6] <;> rfl)) rfl rfl ?_
        refine o_rd (r_move (by simp only [ev, envOf, val_set, ofValue, ofCell, ↓reduceIte, Nat.reduceEqDiff, v0, v1, v4, v5, v6] <;> rfl)) rfl rfl ?_
        refine o_rd (r_sliceFrom (j := i + 1) Try.underlying28 Ty.csz3 (by simp only [ev, envOf, val_set, ofValue, ofCell, ↓reduceIte, Nat.reduceEqDiff, v0, v1, v4, v5, v6] <;> rfl) (by simp only [ev, envOf, val_set, ofValue, ofCell, ↓reduceIte, Nat.reduceEqDiff, v0, v1, v4, v5, v6] <;> rfl) (by omega) hc0 (O0.ext E5).cutOk) rfl rfl ?_
        refine o_ap W5 Try.underlying28 Try.underlying28 rfl Ty.csz3 Ty.byt3 Ty.zero3 rfl (by simp only [ev, envOf, val_set, ofValue, ofCell, ↓reduceIte, Nat.reduceEqDiff, v0, v1, v4, v5, v6] <;> rfl) (by simp only [ev, envOf, val_set, ofValue, ofCell, ↓reduceIte, Nat.reduceEqDiff, v0, v1, v4, v5, v6] <;> rfl) O5 (src_drop (j := i + 1) (O0.ext E5) (by omega)) (by simp) (ones_int _) (by omega) rfl rfl ?_; intro s9 H9 bs9 fs9 O9 W9 l9 u9 p9 q9 K9
        have E9 := Ext.keeps W0 E5 N5 K9 l9 W9
        have N9 := N5.step E5.n p9 q9
        refine o_rd (r_assign (by simp only [ev, envOf, val_set, ofValue, ofCell, ↓reduceIte, Nat.reduceEqDiff, v0, v1, v4, v5, v6] <;> rfl)) rfl rfl ?_
        refine o_nil ?_
        refine w_ret ⟨.inr rfl, rfl, s9, (show resultA Try.prog [.tmp 4] _ = _ by simp only [resultA, resultsA, envOf, val_set, ↓reduceIte, Nat.reduceEqDiff, Option.map_some, v0, v1, v4, v5, v6] <;> rfl), ?_⟩
        try dsimp only
        have hput := putL_ok (x := x) hRi (i := i) (by omega) hlt (by intro hj; omega)
        have hq : putL la i x = la.take i ++ ([x] ++ la.drop (i + 1)) := by unfold putL; rw [if_pos (by rw [List.getElem?_eq_getElem hi1]; exact congrArg some (by omega))]
        refine ⟨putL la i x, _, _, _, rfl, ?_, N9, hput.1, hput.2, (by rw [hq]; simp only [List.length_append, List.length_take, List.length_cons, List.length_nil, List.length_drop]; omega), E9⟩
        have hO := O9
        rw [hq]; simp only [List.map_append, List.map_cons, List.map_nil, List.length_append, List.length_take, List.length_cons, List.length_nil, List.length_drop, List.append_assoc] at hO ⊢
        rw [show min i la.length + (0 + 1 + (la.length - (i + 1))) = i + 1 + (la.length - (i + 1)) by omega]; exact hO
      · have hc8 := dec_f hc8
        refine w_skip ?_
        refine w_seq ?_
        refine w_region ?_
        refine o_rd (r_move (by simp only [ev, envOf, val_set, ofValue, ofCell, ↓reduceIte, Nat.reduceEqDiff, v0, v1, v4, v5, v6] <;> rfl)) rfl rfl ?_
        refine o_rd (r_move (by simp only [ev, envOf, val_set, ofValue, ofCell, ↓reduceIte, Nat.reduceEqDiff, v0, v1, v4, v5, v6] <;> rfl)) rfl rfl ?_
        refine o_rd (r_move (by simp only [ev, envOf, val_set, ofValue, ofCell, ↓reduceIte, Nat.reduceEqDiff, v0, v1, v4, v5, v6] <;> rfl)) rfl rfl ?_
        refine o_rd (r_sliceFrom (j := i) Try.underlying28 Ty.csz3 (by simp only [ev, envOf, val_set, ofValue, ofCell, ↓reduceIte, Nat.reduceEqDiff, v0, v1, v4, v5, v6] <;> rfl) (by simp only [ev, envOf, val_set, ofValue, ofCell, ↓reduceIte, Nat.reduceEqDiff, v0, v1, v4, v5, v6] <;> rfl) (by omega) hc0 (O0.ext E5).cutOk) rfl rfl ?_
        refine o_ap W5 Try.underlying28 Try.underlying28 rfl Ty.csz3 Ty.byt3 Ty.zero3 rfl (by simp only [ev, envOf, val_set, ofValue, ofCell, ↓reduceIte, Nat.reduceEqDiff, v0, v1, v4, v5, v6] <;> rfl) (by simp only [ev, envOf, val_set, ofValue, ofCell, ↓reduceIte, Nat.reduceEqDiff, v0, v1, v4, v5, v6] <;> rfl) O5 (src_drop (j := i) (O0.ext E5) (by omega)) (by simp) (ones_int _) (by omega) rfl rfl ?_; intro s10 H10 bs10 fs10 O10 W10 l10 u10 p10 q10 K10
        have E10 := Ext.keeps W0 E5 N5 K10 l10 W10
        have N10 := N5.step E5.n p10 q10
        refine o_rd (r_assign (by simp only [ev, envOf, val_set, ofValue, ofCell, ↓reduceIte, Nat.reduceEqDiff, v0, v1, v4, v5, v6] <;> rfl)) rfl rfl ?_
        refine o_nil ?_
        refine w_ret ⟨.inr rfl, rfl, s10, (show resultA Try.prog [.tmp 4] _ = _ by simp only [resultA, resultsA, envOf, val_set, ↓reduceIte, Nat.reduceEqDiff, Option.map_some, v0, v1, v4, v5, v6] <;> rfl), ?_⟩
        try dsimp only
        have hput := putL_ok (x := x) hRi (i := i) (by omega) hlt (by intro hj; omega)
        have hq : putL la i x = la.take i ++ ([x] ++ la.drop (i)) := by unfold putL; rw [if_neg (by intro hs; obtain ⟨q1, q2⟩ := List.getElem?_eq_some_iff.1 hs; omega)]
        refine ⟨putL la i x, _, _, _, rfl, ?_, N10, hput.1, hput.2, (by rw [hq]; simp only [List.length_append, List.length_take, List.length_cons, List.length_nil, List.length_drop]; omega), E10⟩
        have hO := O10
        rw [hq]; simp only [List.map_append, List.map_cons, List.map_nil, List.length_append, List.length_take, List.length_cons, List.length_nil, List.length_drop, List.append_assoc] at hO ⊢
        rw [show min i la.length + (0 + 1 + (la.length - (i))) = i + 1 + (la.length - (i)) by omega]; exact hO
  · have hg3 := dec_t hg3
    refine o_rd (r_move (by simp only [ev, envOf, val_set, ofValue, ofCell, ↓reduceIte, Nat.reduceEqDiff, v0, v1, v4, v5, v6] <;> rfl)) rfl ((wanted_of (b := true) rfl rfl rfl (by simp only [val_set, ↓reduceIte, Nat.reduceEqDiff, v0, v1, v4, v5, v6] <;> rfl)).trans rfl) ?_
    refine o_rd (r_move (by simp only [ev, envOf, val_set, ofValue, ofCell, ↓reduceIte, Nat.reduceEqDiff, v0, v1, v4, v5, v6] <;> rfl)) rfl ((wanted_of (b := true) rfl rfl rfl (by simp only [val_set, ↓reduceIte, Nat.reduceEqDiff, v0, v1, v4, v5, v6] <;> rfl)).trans rfl) ?_
    have hi1 : i < la.length := by omega
    refine o_rd (r_indexAddr Try.underlying28 Ty.csz3 (by simp only [ev, envOf, val_set, ofValue, ofCell, ↓reduceIte, Nat.reduceEqDiff, v0, v1, v4, v5, v6] <;> rfl) (by simp only [ev, envOf, val_set, ofValue, ofCell, ↓reduceIte, Nat.reduceEqDiff, v0, v1, v4, v5, v6] <;> rfl) hi1) rfl ((wanted_of (b := true) rfl rfl rfl (by simp only [val_set, ↓reduceIte, Nat.reduceEqDiff, v0, v1, v4, v5, v6] <;> rfl)).trans rfl) ?_
    refine o_rd (r_load1 Ty.agg3 (by simp only [ev, envOf, val_set, ofValue, ofCell, ↓reduceIte, Nat.reduceEqDiff, v0, v1, v4, v5, v6] <;> rfl) (own_get (O0.ext E2) hi1)) rfl ((wanted_of (b := true) rfl rfl rfl (by simp only [val_set, ↓reduceIte, Nat.reduceEqDiff, v0, v1, v4, v5, v6] <;> rfl)).trans rfl) ?_
    refine o_rd (r_move (by simp only [ev, envOf, val_set, ofValue, ofCell, ↓reduceIte, Nat.reduceEqDiff, v0, v1, v4, v5, v6] <;> rfl)) rfl ((wanted_of (b := true) rfl rfl rfl (by simp only [val_set, ↓reduceIte, Nat.reduceEqDiff, v0, v1, v4, v5, v6] <;> rfl)).trans rfl) ?_
    refine o_rd (r_lt (a := la[i]) (b := x) (by simp only [ev, envOf, val_set, ofValue, ofCell, ↓reduceIte, Nat.reduceEqDiff, v0, v1, v4, v5, v6] <;> rfl) (by simp only [ev, envOf, val_set, ofValue, ofCell, ↓reduceIte, Nat.reduceEqDiff, v0, v1, v4, v5, v6] <;> rfl)) rfl ((wanted_of (b := true) rfl rfl rfl (by simp only [val_set, ↓reduceIte, Nat.reduceEqDiff, v0, v1, v4, v5, v6] <;> rfl)).trans rfl) ?_
    refine o_rd (r_pick (t := true) (by simp only [ev, envOf, val_set, ofValue, ofCell, ↓reduceIte, Nat.reduceEqDiff, v0, v1, v4, v5, v6] <;> rfl) (fun _ => (by simp only [ev, envOf, val_set, ofValue, ofCell, ↓reduceIte, Nat.reduceEqDiff, v0, v1, v4, v5, v6] <;> rfl)) (fun h => by cases h)) rfl rfl ?_
    refine o_nil ?_
    refine w_cond (by simp only [ev, envOf, val_set, ofValue, ofCell, ↓reduceIte, Nat.reduceEqDiff, v0, v1, v4, v5, v6] <;> rfl) (fun hc11 => ?_) (fun hc11 => ?_)
    · have hc11 := dec_t hc11
      refine w_skip ?_
      refine w_block ?_
      refine w_seq ?_
      refine w_region ?_
      refine o_rd (r_move (by simp only [ev, envOf, val_set, ofValue, ofCell, ↓reduceIte, Nat.reduceEqDiff, v0, v1, v4, v5, v6] <;> rfl)) rfl rfl ?_
      refine o_rd (r_move (by simp only [ev, envOf, val_set, ofValue, ofCell, ↓reduceIte, Nat.reduceEqDiff, v0, v1, v4, v5, v6] <;> rfl)) rfl rfl ?_
      refine o_rd (r_move (by simp only [ev, envOf, val_set, ofValue, ofCell, ↓reduceIte, Nat.reduceEqDiff, v0, v1, v4, v5, v6] <;> rfl)) rfl rfl ?_
      have hi1 : i < la.length := by omega
      refine o_rd (r_indexAddr Try.underlying28 Ty.csz3 (by simp only [ev, envOf, val_set, ofValue, ofCell, ↓reduceIte, Nat.reduceEqDiff, v0, v1, v4, v5, v6] <;> rfl) (by simp only [ev, envOf, val_set, ofValue, ofCell, ↓reduceIte, Nat.reduceEqDiff, v0, v1, v4, v5, v6] <;> rfl) hi1) rfl rfl ?_
      refine o_rd (r_load1 Ty.agg3 (by simp only [ev, envOf, val_set, ofValue, ofCell, ↓reduceIte, Nat.reduceEqDiff, v0, v1, v4, v5, v6] <;> rfl) (own_get (O0.ext E2) hi1)) rfl rfl ?_
      refine o_nw W2 (a_build1 Try.underlying28 Ty.csz3 Ty.zero3 rfl (by simp only [ev, envOf, val_set, ofValue, ofCell, ↓reduceIte, Nat.reduceEqDiff, v0, v1, v4, v5, v6] <;> rfl) rfl (by decide)) rfl rfl rfl (by simp) ?_; intro H12 n12 W12 X12 A12
      have E12 := E2.trans X12
      have O12 := O.ext X12
      refine o_ap W12 Try.underlying28 Try.underlying28 rfl Ty.csz3 Ty.byt3 Ty.zero3 rfl (by simp only [ev, envOf, val_set, ofValue, ofCell, ↓reduceIte, Nat.reduceEqDiff, v0, v1, v4, v5, v6] <;> rfl) (by simp only [ev, envOf, val_set, ofValue, ofCell, ↓reduceIte, Nat.reduceEqDiff, v0, v1, v4, v5, v6] <;> rfl) O12 (src_fresh (n := 1) A12 rfl) (rfl) (rfl) (by omega) rfl rfl ?_; intro s13 H13 bs13 fs13 O13 W13 l13 u13 p13 q13 K13
      have E13 := Ext.keeps W0 E12 hN K13 l13 W13
      have N13 := hN.step E12.n p13 q13
      refine o_rd (r_assign (by simp only [ev, envOf, val_set, ofValue, ofCell, ↓reduceIte, Nat.reduceEqDiff, v0, v1, v4, v5, v6] <;> rfl)) rfl rfl ?_
      refine o_nil ?_
      refine w_region ?_
      refine o_rd (r_move (by simp only [ev, envOf, val_set, ofValue, ofCell, ↓reduceIte, Nat.reduceEqDiff, v0, v1, v4, v5, v6] <;> rfl)) rfl rfl ?_
      refine o_rd (r_addE (a := ((i : Nat) : Int)) (b := 1) (c := ((i + 1 : Nat) : Int)) (by simp only [ev, envOf, val_set, ofValue, ofCell, ↓reduceIte, Nat.reduceEqDiff, v0, v1, v4, v5, v6] <;> rfl) (by simp only [ev, envOf, val_set, ofValue, ofCell, ↓reduceIte, Nat.reduceEqDiff, v0, v1, v4, v5, v6] <;> rfl) (by omega) (by omega) (by omega)) rfl rfl ?_
      refine o_rd (r_assign (by simp only [ev, envOf, val_set, ofValue, ofCell, ↓reduceIte, Nat.reduceEqDiff, v0, v1, v4, v5, v6] <;> rfl)) rfl rfl ?_
      refine o_nil ?_
      exact ⟨m - 1, (by omega), _, H13, i + 1, s13, bs13, fs13, rfl, (by simp only [val_set, ↓reduceIte, Nat.reduceEqDiff, v0, v1, v4, v5, v6] <;> rfl), (by simp only [val_set, ↓reduceIte, Nat.reduceEqDiff, v0, v1, v4, v5, v6] <;> rfl), (by simp only [val_set, ↓reduceIte, Nat.reduceEqDiff, v0, v1, v4, v5, v6] <;> rfl), (by simp only [val_set, ↓reduceIte, Nat.reduceEqDiff, v0, v1, v4, v5, v6] <;> rfl), (by simp only [val_set, ↓reduceIte, Nat.reduceEqDiff, v0, v1, v4, v5, v6] <;> rfl), W13, E13, (by rw [List.take_succ_eq_append_getElem hi1, List.map_append]; exact O13), N13, (fun j hj h => (Nat.lt_or_eq_of_le (Nat.le_of_lt_succ h)).elim (fun e => hlt j hj e) (fun e => by subst e; omega)), (by omega)⟩
    · have hc11 := dec_f hc11
      refine w_exit (blk_exit ?_)
      refine w_seq ?_
      refine w_region ?_
      refine o_rd (r_move (by simp only [ev, envOf, val_set, ofValue, ofCell, ↓reduceIte, Nat.reduceEqDiff, v0, v1, v4, v5, v6] <;> rfl)) rfl rfl ?_
      refine o_rd (r_move (by simp only [ev, envOf, val_set, ofValue, ofCell, ↓reduceIte, Nat.reduceEqDiff, v0, v1, v4, v5, v6] <;> rfl)) rfl rfl ?_
      refine o_nw W2 (a_build1 Try.underlying28 Ty.csz3 Ty.zero3 rfl (by simp only [ev, envOf, val_set, ofValue, ofCell, ↓reduceIte, Nat.reduceEqDiff, v0, v1, v4, v5, v6] <;> rfl) rfl (by decide)) rfl rfl rfl (by simp) ?_; intro H14 n14 W14 X14 A14
      have E14 := E2.trans X14
      have O14 := O.ext X14
      refine o_ap W14 Try.underlying28 Try.underlying28 rfl Ty.csz3 Ty.byt3 Ty.zero3 rfl (by simp only [ev, envOf, val_set, ofValue, ofCell, ↓reduceIte, Nat.reduceEqDiff, v0, v1, v4, v5, v6] <;> rfl) (by simp only [ev, envOf, val_set, ofValue, ofCell, ↓reduceIte, Nat.reduceEqDiff, v0, v1, v4, v5, v6] <;> rfl) O14 (src_fresh (n := 1) A14 rfl) (rfl) (rfl) (by omega) rfl rfl ?_; intro s15 H15 bs15 fs15 O15 W15 l15 u15 p15 q15 K15
      have E15 := Ext.keeps W0 E14 hN K15 l15 W15
      have N15 := hN.step E14.n p15 q15
      refine o_rd (r_assign (by simp only [ev, envOf, val_set, ofValue, ofCell, ↓reduceIte, Nat.reduceEqDiff, v0, v1, v4, v5, v6] <;> rfl)) rfl rfl ?_
      refine o_nil ?_
      refine w_seq ?_
      refine w_seq ?_
      refine w_region ?_
      refine o_rd (r_move (by simp only [ev, envOf, val_set, ofValue, ofCell, ↓reduceIte, Nat.reduceEqDiff, v0, v1, v4, v5, v6] <;> rfl)) rfl rfl ?_
      refine o_rd (r_move (by simp only [ev, envOf, val_set, ofValue, ofCell, ↓reduceIte, Nat.reduceEqDiff, v0, v1, v4, v5, v6] <;> rfl)) rfl rfl ?_
      refine o_rd (r_len (n := la.length) Try.underlying28 (by simp only [ev, envOf, val_set, ofValue, ofCell, ↓reduceIte, Nat.reduceEqDiff, v0, v1, v4, v5, v6] <;> rfl) rfl) rfl rfl ?_
      refine o_rd (r_lt (a := ((i : Nat) : Int)) (b := ((la.length : Nat) : Int)) (by simp only [ev, envOf, val_set, ofValue, ofCell, ↓reduceIte, Nat.reduceEqDiff, v0, v1, v4, v5, v6] <;> rfl) (by simp only [ev, envOf, val_set, ofValue, ofCell, ↓reduceIte, Nat.reduceEqDiff, v0, v1, v4, v5, v6] <;> rfl)) rfl rfl ?_
      refine o_rd (r_move (by simp only [ev, envOf, val_set, ofValue, ofCell, ↓reduceIte, Nat.reduceEqDiff, v0, v1, v4, v5, v6] <;> rfl)) rfl rfl ?_
      cases hg16 : (decide (((i : Nat) : Int) < ((la.length : Nat) : Int)) : Bool)
      · have hg16 := dec_f hg16
        refine o_sk rfl ((wanted_of (b := false) rfl rfl rfl (by simp only [val_set, ↓reduceIte, Nat.reduceEqDiff, v0, v1, v4, v5, v6] <;> rfl)).trans rfl) ?_
        refine o_sk rfl ((wanted_of (b := false) rfl rfl rfl (by simp only [val_set, ↓reduceIte, Nat.reduceEqDiff, v0, v1, v4, v5, v6] <;> rfl)).trans rfl) ?_
        refine o_sk rfl ((wanted_of (b := false) rfl rfl rfl (by simp only [val_set, ↓reduceIte, Nat.reduceEqDiff, v0, v1, v4, v5, v6] <;> rfl)).trans rfl) ?_
        refine o_sk rfl ((wanted_of (b := false) rfl rfl rfl (by simp only [val_set, ↓reduceIte, Nat.reduceEqDiff, v0, v1, v4, v5, v6] <;> rfl)).trans rfl) ?_
        refine o_sk rfl ((wanted_of (b := false) rfl rfl rfl (by simp only [val_set, ↓reduceIte, Nat.reduceEqDiff, v0, v1, v4, v5, v6] <;> rfl)).trans rfl) ?_
        refine o_sk rfl ((wanted_of (b := false) rfl rfl rfl (by simp only [val_set, ↓reduceIte, Nat.reduceEqDiff, v0, v1, v4, v5, v6] <;> rfl)).trans rfl) ?_
        refine o_rd (r_pick (t := false) (by simp only [ev, envOf, val_set, ofValue, ofCell, ↓reduceIte, Nat.reduceEqDiff, v0, v1, v4, v5, v6] <;> rfl) (fun h => by cases h) (fun _ => (by simp only [ev, envOf, val_set, ofValue, ofCell, ↓reduceIte, Nat.reduceEqDiff, v0, v1, v4, v5, v6] <;> rfl))) rfl rfl ?_
        refine o_nil ?_
        refine w_cond (t := false) (by simp only [ev, envOf, val_set, ofValue, ofCell, ↓reduceIte, Nat.reduceEqDiff, v0, v1, v4, v5, v6] <;> rfl) (fun h => by cases h) (fun _ => ?_)
        refine w_skip ?_
        refine w_seq ?_
        refine w_region ?_
        refine o_rd (r_move (by simp only [ev, envOf, val_set, ofValue, ofCell, ↓reduceIte, Nat.reduceEqDiff, v0, v1, v4, v5, v6] <;> rfl)) rfl rfl ?_
        refine o_rd (r_move (by simp only [ev, envOf, val_set, ofValue, ofCell, ↓reduceIte, Nat.reduceEqDiff, v0, v1, v4, v5, v6] <;> rfl)) rfl rfl ?_
        refine o_rd (r_move (by simp only [ev, envOf, val_set, ofValue, ofCell, ↓reduceIte, Nat.reduceEqDiff, v0, v1, v4, v5, v6] <;> rfl)) rfl rfl ?_
        refine o_rd (r_sliceFrom (j := i) Try.underlying28 Ty.csz3 (by simp only [ev, envOf, val_set, ofValue, ofCell, ↓reduceIte, Nat.reduceEqDiff, v0, v1, v4, v5, v6] <;> rfl) (by simp only [ev, envOf, val_set, ofValue, ofCell, ↓reduceIte, Nat.reduceEqDiff, v0, v1, v4, v5, v6] <;> rfl) (by omega) hc0 (O0.ext E15).cutOk) rfl rfl ?_
        refine o_ap W15 Try.underlying28 Try.underlying28 rfl Ty.csz3 Ty.byt3 Ty.zero3 rfl (by simp only [ev, envOf, val_set, ofValue, ofCell, ↓reduceIte, Nat.reduceEqDiff, v0, v1, v4, v5, v6] <;> rfl) (by simp only [ev, envOf, val_set, ofValue, ofCell, ↓reduceIte, Nat.reduceEqDiff, v0, v1, v4, v5, v6] <;> rfl) O15 (src_drop (j := i) (O0.ext E15) (by omega)) (by simp) (ones_int _) (by omega) rfl rfl ?_; intro s17 H17 bs17 fs17 O17 W17 l17 u17 p17 q17 K17
        have E17 := Ext.keeps W0 E15 N15 K17 l17 W17
        have N17 := N15.step E15.n p17 q17
        refine o_rd (r_assign (by simp only [ev, envOf, val_set, ofValue, ofCell, ↓reduceIte, Nat.reduceEqDiff, v0, v1, v4, v5, v6] <;> rfl)) rfl rfl ?_
        refine o_nil ?_
        refine w_ret ⟨.inr rfl, rfl, s17, (show resultA Try.prog [.tmp 4] _ = _ by simp only [resultA, resultsA, envOf, val_set, ↓reduceIte, Nat.reduceEqDiff, Option.map_some, v0, v1, v4, v5, v6] <;> rfl), ?_⟩
        try dsimp only
        have hput := putL_ok (x := x) hRi (i := i) (by omega) hlt (by intro hj; omega)
        have hq : putL la i x = la.take i ++ ([x] ++ la.drop (i)) := by unfold putL; rw [if_neg (by intro hs; obtain ⟨q1, q2⟩ := List.getElem?_eq_some_iff.1 hs; omega)]
        refine ⟨putL la i x, _, _, _, rfl, ?_, N17, hput.1, hput.2, (by rw [hq]; simp only [List.length_append, List.length_take, List.length_cons, List.length_nil, List.length_drop]; omega), E17⟩
        have hO := O17
        rw [hq]; simp only [List.map_append, List.map_cons, List.map_nil, List.length_append, List.length_take, List.length_cons, List.length_nil, List.length_drop, List.append_assoc] at hO ⊢
        rw [show min i la.length + (0 + 1 + (la.length - (i))) = i + 1 + (la.length - (i)) by omega]; exact hO
      · have hg16 := dec_t hg16
        refine o_rd (r_move (by simp only [ev, envOf, val_set, ofValue, ofCell, ↓reduceIte, Nat.reduceEqDiff, v0, v1, v4, v5, v6] <;> rfl)) rfl ((wanted_of (b := true) rfl rfl rfl (by simp only [val_set, ↓reduceIte, Nat.reduceEqDiff, v0, v1, v4, v5, v6] <;> rfl)).trans rfl) ?_
        refine o_rd (r_move (by simp only [ev, envOf, val_set, ofValue, ofCell, ↓reduceIte, Nat.reduceEqDiff, v0, v1, v4, v5, v6] <;> rfl)) rfl ((wanted_of (b := true) rfl rfl rfl (by simp only [val_set, ↓reduceIte, Nat.reduceEqDiff, v0, v1, v4, v5, v6] <;> rfl)).trans rfl) ?_
        have hi1 : i < la.length := by omega
        refine o_rd (r_indexAddr Try.underlying28 Ty.csz3 (by simp only [ev, envOf, val_set, ofValue, ofCell, ↓reduceIte, Nat.reduceEqDiff, v0, v1, v4, v5, v6] <;> rfl) (by simp only [ev, envOf, val_set, ofValue, ofCell, ↓reduceIte, Nat.reduceEqDiff, v0, v1, v4, v5, v6] <;> rfl) hi1) rfl ((wanted_of (b := true) rfl rfl rfl (by simp only [val_set, ↓reduceIte, Nat.reduceEqDiff, v0, v1, v4, v5, v6] <;> rfl)).trans rfl) ?_
        refine o_rd (r_load1 Ty.agg3 (by simp only [ev, envOf, val_set, ofValue, ofCell, ↓reduceIte, Nat.reduceEqDiff, v0, v1, v4, v5, v6] <;> rfl) (own_get (O0.ext E15) hi1)) rfl ((wanted_of (b := true) rfl rfl rfl (by simp only [val_set, ↓reduceIte, Nat.reduceEqDiff, v0, v1, v4, v5, v6] <;> rfl)).trans rfl) ?_
        refine o_rd (r_move (by simp only [ev, envOf, val_set, ofValue, ofCell, ↓reduceIte, Nat.reduceEqDiff, v0, v1, v4, v5, v6] <;> rfl)) rfl ((wanted_of (b := true) rfl rfl rfl (by simp only [val_set, ↓reduceIte, Nat.reduceEqDiff, v0, v1, v4, v5, v6] <;> rfl)).trans rfl) ?_
        refine o_rd (r_eq (a := la[i]) (b := x) (by simp only [ev, envOf, val_set, ofValue, ofCell, ↓reduceIte, Nat.reduceEqDiff, v0, v1, v4, v5, v6] <;> rfl) (by simp only [ev, envOf, val_set, ofValue, ofCell, ↓reduceIte, Nat.reduceEqDiff, v0, v1, v4, v5, v6] <;> rfl)) rfl ((wanted_of (b := true) rfl rfl rfl (by simp only [val_set, ↓reduceIte, Nat.reduceEqDiff, v0, v1, v4, v5, v6] <;> rfl)).trans rfl) ?_
        refine o_rd (r_pick (t := true) (by simp only [ev, envOf, val_set, ofValue, ofCell, ↓reduceIte, Nat.reduceEqDiff, v0, v1, v4, v5, v6] <;> rfl) (fun _ => (by simp only [ev, envOf, val_set, ofValue, ofCell, ↓reduceIte, Nat.reduceEqDiff, v0, v1, v4, v5, v6] <;> rfl)) (fun h => by cases h)) rfl rfl ?_
        refine o_nil ?_
        refine w_cond (by simp only [ev, envOf, val_set, ofValue, ofCell, ↓reduceIte, Nat.reduceEqDiff, v0, v1, v4, v5, v6] <;> rfl) (fun hc18 => ?_) (fun hc18 => ?_)
        · have hc18 := dec_t hc18
          refine w_region ?_
          refine o_rd (r_move (by simp only [ev, envOf, val_set, ofValue, ofCell, ↓reduceIte, Nat.reduceEqDiff, v0, v1, v4, v5, v6] <;> rfl)) rfl rfl ?_
          refine o_rd (r_addE (a := ((i : Nat) : Int)) (b := 1) (c := ((i + 1 : Nat) : Int)) (by simp only [ev, envOf, val_set, ofValue, ofCell, ↓reduceIte, Nat.reduceEqDiff, v0, v1, v4, v5, v6] <;> rfl) (by simp only [ev, envOf, val_set, ofValue, ofCell, ↓reduceIte, Nat.reduceEqDiff, v0, v1, v4, v5, v6] <;> rfl) (by omega) (by omega) (by omega)) rfl rfl ?_
          refine o_rd (r_assign (by simp only [ev, envOf, val_set, ofValue, ofCell, ↓reduceIte, Nat.reduceEqDiff, v0, v1, v4, v5, v6] <;> rfl)) rfl rfl ?_
          refine o_nil ?_
          refine w_seq ?_
          refine w_region ?_
          refine o_rd (r_move (by simp only [ev, envOf, val_set, ofValue, ofCell, ↓reduceIte, Nat.reduceEqDiff, v0, v1, v4, v5, v6] <;> rfl)) rfl rfl ?_
          refine o_rd (r_move (by simp only [ev, envOf, val_set, ofValue, ofCell, ↓reduceIte, Nat.reduceEqDiff, v0, v1, v4, v5, v6] <;> rfl)) rfl rfl ?_
          refine o_rd (r_move (by simp only [ev, envOf, val_set, ofValue, ofCell, ↓reduceIte, Nat.reduceEqDiff, v0, v1, v4, v5, v6] <;> rfl)) rfl rfl ?_
          refine o_rd (r_sliceFrom (j := i + 1) Try.underlying28 Ty.csz3 (by simp only [ev, envOf, val_set, ofValue, ofCell, ↓reduceIte, Nat.reduceEqDiff, v0, v1, v4, v5, v6] <;> rfl) (by simp only [ev, envOf, val_set, ofValue, ofCell, ↓reduceIte, Nat.reduceEqDiff, v0, v1, v4, v5, v6] <;> rfl) (by omega) hc0 (O0.ext E15).cutOk) rfl rfl ?_
          refine o_ap W15 Try.underlying28 Try.underlying28 rfl Ty.csz3 Ty.byt3 Ty.zero3 rfl (by simp only [ev, envOf, val_set, ofValue, ofCell, ↓reduceIte, Nat.reduceEqDiff, v0, v1, v4, v5, v6] <;> rfl) (by simp only [ev, envOf, val_set, ofValue, ofCell, ↓reduceIte, Nat.reduceEqDiff, v0, v1, v4, v5, v6] <;> rfl) O15 (src_drop (j := i + 1) (O0.ext E15) (by omega)) (by simp) (ones_int _) (by omega) rfl rfl ?_; intro s19 H19 bs19 fs19 O19 W19 l19 u19 p19 q19 K19
          have E19 := Ext.keeps W0 E15 N15 K19 l19 W19
          have N19 := N15.step E15.n p19 q19
          refine o_rd (r_assign (by simp only [ev, envOf, val_set, ofValue, ofCell, ↓reduceIte, Nat.reduceEqDiff, v0, v1, v4, v5, v6] <;> rfl)) rfl rfl ?_
          refine o_nil ?_
          refine w_ret ⟨.inr rfl, rfl, s19, (show resultA Try.prog [.tmp 4] _ = _ by simp only [resultA, resultsA, envOf, val_set, ↓reduceIte, Nat.reduceEqDiff, Option.map_some, v0, v1, v4, v5, v6] <;> rfl), ?_⟩
          try dsimp only
          have hput := putL_ok (x := x) hRi (i := i) (by omega) hlt (by intro hj; omega)
          have hq : putL la i x = la.take i ++ ([x] ++ la.drop (i + 1)) := by unfold putL; rw [if_pos (by rw [List.getElem?_eq_getElem hi1]; exact congrArg some (by omega))]
          refine ⟨putL la i x, _, _, _, rfl, ?_, N19, hput.1, hput.2, (by rw [hq]; simp only [List.length_append, List.length_take, List.length_cons, List.length_nil, List.length_drop]; omega), E19⟩
          have hO := O19
          rw [hq]; simp only [List.map_append, List.map_cons, List.map_nil, List.length_append, List.length_take, List.length_cons, List.length_nil, List.length_drop, List.append_assoc] at hO ⊢
          rw [show min i la.length + (0 + 1 + (la.length - (i + 1))) = i + 1 + (la.length - (i + 1)) by omega]; exact hO
        · have hc18 := dec_f hc18
          refine w_skip ?_
          refine w_seq ?_
          refine w_region ?_
          refine o_rd (r_move (by simp only [ev, envOf, val_set, ofValue, ofCell, ↓reduceIte, Nat.reduceEqDiff, v0, v1, v4, v5, v6] <;> rfl)) rfl rfl ?_
          refine o_rd (r_move (by simp only [ev, envOf, val_set, ofValue, ofCell, ↓reduceIte, Nat.reduceEqDiff, v0, v1, v4, v5, v6] <;> rfl)) rfl rfl ?_
          refine o_rd (r_move (by simp only [ev, envOf, val_set, ofValue, ofCell, ↓reduceIte, Nat.reduceEqDiff, v0, v1, v4, v5, v6] <;> rfl)) rfl rfl ?_
          refine o_rd (r_sliceFrom (j := i) Try.underlying28 Ty.csz3 (by simp only [ev, envOf, val_set, ofValue, ofCell, ↓reduceIte, Nat.reduceEqDiff, v0, v1, v4, v5, v6] <;> rfl) (by simp only [ev, envOf, val_set, ofValue, ofCell, ↓reduceIte, Nat.reduceEqDiff, v0, v1, v4, v5, v6] <;> rfl) (by omega) hc0 (O0.ext E15).cutOk) rfl rfl ?_
          refine o_ap W15 Try.underlying28 Try.underlying28 rfl Ty.csz3 Ty.byt3 Ty.zero3 rfl (by simp only [ev, envOf, val_set, ofValue, ofCell, ↓reduceIte, Nat.reduceEqDiff, v0, v1, v4, v5, v6] <;> rfl) (by simp only [ev, envOf, val_set, ofValue, ofCell, ↓reduceIte, Nat.reduceEqDiff, v0, v1, v4, v5, v6] <;> rfl) O15 (src_drop (j := i) (O0.ext E15) (by omega)) (by simp) (ones_int _) (by omega) rfl rfl ?_; intro s20 H20 bs20 fs20 O20 W20 l20 u20 p20 q20 K20
          have E20 := Ext.keeps W0 E15 N15 K20 l20 W20
          have N20 := N15.step E15.n p20 q20
          refine o_rd (r_assign (by simp only [ev, envOf, val_set, ofValue, ofCell, ↓reduceIte, Nat.reduceEqDiff, v0, v1, v4, v5, v6] <;> rfl)) rfl rfl ?_
          refine o_nil ?_
          refine w_ret ⟨.inr rfl, rfl, s20, (show resultA Try.prog [.tmp 4] _ = _ by simp only [resultA, resultsA, envOf, val_set, ↓reduceIte, Nat.reduceEqDiff, Option.map_some, v0, v1, v4, v5, v6] <;> rfl), ?_⟩
          try dsimp only
          have hput := putL_ok (x := x) hRi (i := i) (by omega) hlt (by intro hj; omega)
          have hq : putL la i x = la.take i ++ ([x] ++ la.drop (i)) := by unfold putL; rw [if_neg (by intro hs; obtain ⟨q1, q2⟩ := List.getElem?_eq_some_iff.1 hs; omega)]
          refine ⟨putL la i x, _, _, _, rfl, ?_, N20, hput.1, hput.2, (by rw [hq]; simp only [List.length_append, List.length_take, List.length_cons, List.length_nil, List.length_drop]; omega), E20⟩
          have hO := O20
          rw [hq]; simp only [List.map_append, List.map_cons, List.map_nil, List.length_append, List.length_take, List.length_cons, List.length_nil, List.length_drop, List.append_assoc] at hO ⊢
          rw [show min i la.length + (0 + 1 + (la.length - (i))) = i + 1 + (la.length - (i)) by omega]; exact hO
end Go.Proofs.Ytenfjdkeikjhlaa.Vs
