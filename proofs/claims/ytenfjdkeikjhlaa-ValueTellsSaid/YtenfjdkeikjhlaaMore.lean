/-
  The closure of value.Chans: a channel's number laid behind the list that it has in its hands.
-/
import Derived.Test.YtenfjdkeikjhlaaChansR
set_option autoImplicit false
set_option linter.unusedVariables false
set_option linter.unusedSimpArgs false
namespace Go.Proofs.Ytenfjdkeikjhlaa.Vs
open Go.VI Go.Proofs
variable {orc : CallF}
/-- the variable of a list: nil, or a list of its own -/
def Cell (H0 H : AH) (cb : Nat) (l : List Int) (b : Nat) (f : Option Nat) : Prop :=
  ∃ sv, H.at cb = some (.row [sv] 28 false none) ∧ ((l = [] ∧ sv = .nils) ∨ (1 ≤ l.length ∧ Own H 3 1 sv l.length (l.map (AV.int .i64)) b f ∧ b ≠ cb)) ∧ New H0 b f ∧ H0.n ≤ cb
/-- what a step with it leaves as it was -/
structure More (H0 HS H' : AH) (cb b : Nat) (f : Option Nat) (b' : Nat) (f' : Option Nat) : Prop where
  wf : Wf H'
  n : HS.n ≤ H'.n
  ext : Ext H0 H'
  keep : ∀ c x, HS.at c = some x → c ≠ cb → c ≠ b → (famid x = none ∨ famid x ≠ f) → H'.at c = some x
  hb : b' = b ∨ HS.n ≤ b'
  hf : f' = none ∨ f' = f ∨ ∃ g, f' = some g ∧ HS.n ≤ g
  hl : b < HS.n → b' < H'.n
  hlf : (∀ g, f = some g → g < HS.n) → ∀ g, f' = some g → g < H'.n
theorem Cell.ext {H0 H H' : AH} {cb b : Nat} {l : List Int} {f : Option Nat} (C : Cell H0 H cb l b f) (E : Ext H H') : Cell H0 H' cb l b f := by
  obtain ⟨sv, h1, h2, h3, h4⟩ := C
  refine ⟨sv, E.keep _ _ h1, ?_, h3, h4⟩
  rcases h2 with h2 | ⟨h5, h6, h7⟩
  · exact .inl h2
  · exact .inr ⟨h5, h6.ext E, h7⟩
/-- a local variable is made and filled -/
theorem Cell.loc {H0 H H1 H2 : AH} {cb b : Nat} {l : List Int} {f : Option Nat} (C : Cell H0 H cb l b f) (W : Wf H) (X : Ext H H1) (K : Keeps H1 H2 H.n none) : Cell H0 H2 cb l b f := by
  obtain ⟨sv, h1, h2, h3, h4⟩ := C
  have hl := W.lt h1
  refine ⟨sv, K.own (X.keep _ _ h1) (by omega), ?_, h3, h4⟩
  rcases h2 with h2 | ⟨h5, h6, h7⟩
  · exact .inl h2
  · have := h6.lt W
    exact .inr ⟨h5, (h6.ext X).keep (fun x hx _ => K.own hx (by omega)), h7⟩
/-- a stack beside it grows -/
theorem Cell.beside {H0 H H' : AH} {cb b bs : Nat} {l : List Int} {f fs : Option Nat} (C : Cell H0 H cb l b f) (K : Keeps H H' bs fs) (hc : bs ≠ cb) (A : Apart b f bs fs) : Cell H0 H' cb l b f := by
  obtain ⟨sv, h1, h2, h3, h4⟩ := C
  refine ⟨sv, K.at h1 (Ne.symm hc) rfl, ?_, h3, h4⟩
  rcases h2 with h2 | ⟨h5, h6, h7⟩
  · exact .inl h2
  · exact .inr ⟨h5, h6.other K A, h7⟩
theorem More.other {H0 HS H' : AH} {cb b b' bs el e n : Nat} {s : AV} {cs : List AV} {f f' fs : Option Nat} (M : More H0 HS H' cb b f b' f') (O : Own HS el e s n cs bs fs) (hc : bs ≠ cb) (A : Apart b f bs fs) : Own H' el e s n cs bs fs :=
  O.keep fun x hx hf => M.keep _ _ hx hc (Ne.symm A.1) (by rw [hf]; exact A.symm.2)
theorem More.apart {H0 HS H' : AH} {cb b b' bs el e n : Nat} {s : AV} {cs : List AV} {f f' fs : Option Nat} (M : More H0 HS H' cb b f b' f') (W : Wf HS) (O : Own HS el e s n cs bs fs) (A : Apart b f bs fs) : Apart b' f' bs fs := by
  have h1 := O.lt W
  refine ⟨M.hb.elim (fun h => by rw [h]; exact A.1) (fun h => by omega), ?_⟩
  rcases M.hf with h | h | ⟨g, h, hg⟩
  · exact .inl h
  · rw [h]; exact A.2
  · refine .inr fun e => ?_
    have := O.famlt W (f := g) (by rw [← e, h]); omega
theorem SA.srcs {H : AH} {l : List V} {s : AV} (h : SA H l s) : ∃ cs, srcCells H 3 s = some (l.length, cs) ∧ LA H l cs := by
  cases h with
  | nil => exact ⟨[], rfl, .nil⟩
  | sl _ loc off cap cs hr hc hb h => exact ⟨cs, by simp only [srcCells, hr], h⟩
set_option maxRecDepth 100000 in
set_option maxHeartbeats 4000000 in
theorem more_fin (ho : NoOrcBut [9, 35, 36] orc) {H0 HS : AH} (W0 : Wf H0) (WS : Wf HS) (ES : Ext H0 HS) (k n : Int) (sx : AV) (hsx : sx.one = true) (cb b : Nat) (l : List Int) (f : Option Nat) (sv : AV) (hcb : HS.at cb = some (.row [sv] 28 false none)) (hls : (l = [] ∧ sv = .nils) ∨ (1 ≤ l.length ∧ Own HS 3 1 sv l.length (l.map (AV.int .i64)) b f ∧ b ≠ cb)) (hN : New H0 b f) (hcb0 : H0.n ≤ cb) (hlen : l.length ≤ 1000000) : Fin Try.prog orc 34 [.agg [.int .i64 (k), .int .i64 (n), sx], .ptr (.mt (cb)) (0)] HS (fun r H' => r = .bool true ∧ ∃ l' b' f', Cell H0 H' cb l' b' f' ∧ More H0 HS H' cb b f b' f' ∧ (∀ q, q ∈ l' ↔ q ∈ l ∨ (k = 5 ∧ 0 < n ∧ q = n)) ∧ l'.length ≤ l.length + 1) := by
  have E0 := ES
  have lcb := WS.lt hcb; have hcbS := hcb; have hlsS := hls
  refine fin_of Try.func34 rfl (by rw [Try.ntmps34]; simp) (ho _ rfl _ _) ?_
  rw [Try.ntmps34]
  refine w_seq ?_
  refine w_region ?_
  refine o_nw WS (a_box (by simp only [ev, envOf, val_set, ofValue, ofCell, ↓reduceIte, Nat.reduceEqDiff] <;> rfl)) rfl rfl rfl (by simp) ?_; intro H1 n1 W1 X1 A1
  have A1 : H1.at HS.n = some (.row [.int .i64 (k), .int .i64 (n), sx] 24 false none) := A1
  have E1 := E0.trans X1
  have g1 : H0.n ≤ HS.n := E0.n
  have hcb := X1.keep _ _ hcb
  refine o_rd (r_assign (by simp only [ev, envOf, val_set, ofValue, ofCell, ↓reduceIte, Nat.reduceEqDiff] <;> rfl)) rfl rfl ?_
  refine o_nil ?_
  refine w_seq ?_
  refine w_seq ?_
  refine w_region ?_
  refine o_rd (r_fieldAddr Ty.fo24_0 (by simp only [ev, envOf, val_set, ofValue, ofCell, ↓reduceIte, Nat.reduceEqDiff] <;> rfl)) rfl rfl ?_
  refine o_rd (r_load1 (v := .int .i64 (k)) Ty.agg3 (by simp only [ev, envOf, val_set, ofValue, ofCell, ↓reduceIte, Nat.reduceEqDiff] <;> rfl) (read_mt A1 (Nat.le_of_ble_eq_true rfl))) rfl rfl ?_
  refine o_rd (r_eq (a := k) (b := 5) (by simp only [ev, envOf, val_set, ofValue, ofCell, ↓reduceIte, Nat.reduceEqDiff] <;> rfl) (by simp only [ev, envOf, val_set, ofValue, ofCell, ↓reduceIte, Nat.reduceEqDiff] <;> rfl)) rfl rfl ?_
  refine o_rd (r_move (by simp only [ev, envOf, val_set, ofValue, ofCell, ↓reduceIte, Nat.reduceEqDiff] <;> rfl)) rfl rfl ?_
  cases hg2 : (decide (k = 5) : Bool)
  · have hg2 := dec_f hg2
    refine o_sk rfl ((wanted_of (b := false) rfl rfl rfl (by simp only [val_set, ↓reduceIte, Nat.reduceEqDiff] <;> rfl)).trans rfl) ?_
    refine o_sk rfl ((wanted_of (b := false) rfl rfl rfl (by simp only [val_set, ↓reduceIte, Nat.reduceEqDiff] <;> rfl)).trans rfl) ?_
    refine o_sk rfl ((wanted_of (b := false) rfl rfl rfl (by simp only [val_set, ↓reduceIte, Nat.reduceEqDiff] <;> rfl)).trans rfl) ?_
    refine o_rd (r_pick (t := false) (by simp only [ev, envOf, val_set, ofValue, ofCell, ↓reduceIte, Nat.reduceEqDiff] <;> rfl) (fun h => by cases h) (fun _ => (by simp only [ev, envOf, val_set, ofValue, ofCell, ↓reduceIte, Nat.reduceEqDiff] <;> rfl))) rfl rfl ?_
    refine o_nil ?_
    refine w_cond (t := false) (by simp only [ev, envOf, val_set, ofValue, ofCell, ↓reduceIte, Nat.reduceEqDiff] <;> rfl) (fun h => by cases h) (fun _ => ?_)
    refine w_skip ?_
    refine w_seq ?_
    refine w_region ?_
    refine o_rd (r_assign (by simp only [ev, envOf, val_set, ofValue, ofCell, ↓reduceIte, Nat.reduceEqDiff] <;> rfl)) rfl rfl ?_
    refine o_nil ?_
    refine w_ret ⟨.inr rfl, rfl, .bool (true), (show resultA Try.prog [.tmp 3] _ = _ by simp only [resultA, resultsA, envOf, val_set, ↓reduceIte, Nat.reduceEqDiff, Option.map_some] <;> rfl), ?_⟩
    try dsimp only
    exact ⟨rfl, l, b, f, Cell.ext ⟨sv, hcbS, hlsS, hN, hcb0⟩ X1, ⟨W1, by omega, E1, fun c x h _ _ _ => X1.keep _ _ h, .inl rfl, .inr (.inl rfl), fun _ => by omega, fun h g e => by have := h g e; omega⟩, fun q => ⟨.inl, fun h => h.elim id (fun h => by exfalso; omega)⟩, Nat.le_succ _⟩
  · have hg2 := dec_t hg2
    refine o_rd (r_fieldAddr Ty.fo24_1 (by simp only [ev, envOf, val_set, ofValue, ofCell, ↓reduceIte, Nat.reduceEqDiff] <;> rfl)) rfl ((wanted_of (b := true) rfl rfl rfl (by simp only [val_set, ↓reduceIte, Nat.reduceEqDiff] <;> rfl)).trans rfl) ?_
    refine o_rd (r_load1 (v := .int .i64 (n)) Ty.agg3 (by simp only [ev, envOf, val_set, ofValue, ofCell, ↓reduceIte, Nat.reduceEqDiff] <;> rfl) (read_mt A1 (Nat.le_of_ble_eq_true rfl))) rfl ((wanted_of (b := true) rfl rfl rfl (by simp only [val_set, ↓reduceIte, Nat.reduceEqDiff] <;> rfl)).trans rfl) ?_
    refine o_rd (r_gt (a := n) (b := 0) (by simp only [ev, envOf, val_set, ofValue, ofCell, ↓reduceIte, Nat.reduceEqDiff] <;> rfl) (by simp only [ev, envOf, val_set, ofValue, ofCell, ↓reduceIte, Nat.reduceEqDiff] <;> rfl)) rfl ((wanted_of (b := true) rfl rfl rfl (by simp only [val_set, ↓reduceIte, Nat.reduceEqDiff] <;> rfl)).trans rfl) ?_
    refine o_rd (r_pick (t := true) (by simp only [ev, envOf, val_set, ofValue, ofCell, ↓reduceIte, Nat.reduceEqDiff] <;> rfl) (fun _ => (by simp only [ev, envOf, val_set, ofValue, ofCell, ↓reduceIte, Nat.reduceEqDiff] <;> rfl)) (fun h => by cases h)) rfl rfl ?_
    refine o_nil ?_
    refine w_cond (by simp only [ev, envOf, val_set, ofValue, ofCell, ↓reduceIte, Nat.reduceEqDiff] <;> rfl) (fun hc3 => ?_) (fun hc3 => ?_)
    · have hc3 := dec_t hc3
      refine w_region ?_
      refine o_rd (r_load1 (v := sv) Ty.agg28 (by simp only [ev, envOf, val_set, ofValue, ofCell, ↓reduceIte, Nat.reduceEqDiff] <;> rfl) (read_mt hcb (Nat.le_of_ble_eq_true rfl))) rfl rfl ?_
      refine o_rd (r_fieldAddr Ty.fo24_1 (by simp only [ev, envOf, val_set, ofValue, ofCell, ↓reduceIte, Nat.reduceEqDiff] <;> rfl)) rfl rfl ?_
      refine o_rd (r_load1 (v := .int .i64 (n)) Ty.agg3 (by simp only [ev, envOf, val_set, ofValue, ofCell, ↓reduceIte, Nat.reduceEqDiff] <;> rfl) (read_mt A1 (Nat.le_of_ble_eq_true rfl))) rfl rfl ?_
      rcases hls with ⟨rfl, rfl⟩ | ⟨hl1, Ol, hbc⟩
      · skip
        refine o_nw W1 (a_build1 Try.underlying28 Ty.csz3 Ty.zero3 rfl (by simp only [ev, envOf, val_set, ofValue, ofCell, ↓reduceIte, Nat.reduceEqDiff] <;> rfl) rfl (by decide)) rfl rfl rfl (by simp) ?_; intro H4 n4 W4 X4 A4
        have E4 := E1.trans X4
        have lcb4 := W1.lt hcb
        have hcb := X4.keep _ _ hcb
        refine o_apN W4 Try.underlying28 Try.underlying28 rfl Ty.csz3 Ty.byt3 Ty.zero3 rfl (by simp only [ev, envOf, val_set, ofValue, ofCell, ↓reduceIte, Nat.reduceEqDiff] <;> rfl) (by simp only [ev, envOf, val_set, ofValue, ofCell, ↓reduceIte, Nat.reduceEqDiff] <;> rfl) (src_fresh (n := 1) A4 rfl) rfl rfl (by decide) (by decide) rfl rfl ?_; intro sq H5 Oq W5 n5 X5
        have E5 := E4.trans X5
        have Nq : New H0 H4.n none := ⟨E4.n, fun f h => by cases h⟩
        have hcb := X5.keep _ _ hcb
        have hbq : H4.n ≠ cb := by omega
        obtain ⟨oq, cq, rfl, hcq, RQ⟩ := Oq.read
        refine o_st W5 (by simp only [ev, envOf, val_set, ofValue, ofCell, ↓reduceIte, Nat.reduceEqDiff] <;> rfl) (by simp only [ev, envOf, val_set, ofValue, ofCell, ↓reduceIte, Nat.reduceEqDiff] <;> rfl) hcb Ty.csz28 rfl (Nat.le_of_ble_eq_true rfl) (by rfl) rfl rfl ?_; intro H6 n6 W6 A6 K6
        have A6 : H6.at cb = some (.row [.sl (.mt H4.n) (oq) (1) cq] 28 false none) := A6
        have E6 := Ext.put W0 E5 (by have := E5.n; omega) K6 n6 W6
        refine o_nil ?_
        refine w_seq ?_
        refine w_region ?_
        refine o_rd (r_assign (by simp only [ev, envOf, val_set, ofValue, ofCell, ↓reduceIte, Nat.reduceEqDiff] <;> rfl)) rfl rfl ?_
        refine o_nil ?_
        refine w_ret ⟨.inr rfl, rfl, .bool (true), (show resultA Try.prog [.tmp 3] _ = _ by simp only [resultA, resultsA, envOf, val_set, ↓reduceIte, Nat.reduceEqDiff, Option.map_some] <;> rfl), ?_⟩
        try dsimp only
        refine ⟨rfl, [n], _, _, ⟨_, A6, .inr ⟨by simp, ?_, hbq⟩, Nq, hcb0⟩, ⟨W6, by omega, E6, fun c x h h1 h2 h3 => K6.own (X5.keep _ _ (X4.keep _ _ (X1.keep _ _ h))) h1, .inr (by omega), .inl rfl, fun _ => (Oq.keep (H' := H6) (fun x hx _ => K6.own hx hbq)).lt W6, fun _ g e => (Oq.keep (H' := H6) (fun x hx _ => K6.own hx hbq)).famlt W6 e⟩, fun q => by rw [List.mem_singleton]; exact ⟨fun h => .inr ⟨by omega, by omega, h⟩, fun h => h.elim (fun h => nomatch h) (fun h => h.2.2)⟩, by simp⟩
        have hO := Oq.keep (H' := H6) (fun x hx _ => K6.own hx hbq)
        exact hO
      · skip
        replace Ol := Ol.ext X1
        refine o_nw W1 (a_build1 Try.underlying28 Ty.csz3 Ty.zero3 rfl (by simp only [ev, envOf, val_set, ofValue, ofCell, ↓reduceIte, Nat.reduceEqDiff] <;> rfl) rfl (by decide)) rfl rfl rfl (by simp) ?_; intro H7 n7 W7 X7 A7
        have E7 := E1.trans X7
        have lcb7 := W1.lt hcb
        have hcb := X7.keep _ _ hcb
        refine o_ap W7 Try.underlying28 Try.underlying28 rfl Ty.csz3 Ty.byt3 Ty.zero3 rfl (by simp only [ev, envOf, val_set, ofValue, ofCell, ↓reduceIte, Nat.reduceEqDiff] <;> rfl) (by simp only [ev, envOf, val_set, ofValue, ofCell, ↓reduceIte, Nat.reduceEqDiff] <;> rfl) (Ol.ext X7) (src_fresh (n := 1) A7 rfl) rfl rfl (by omega) rfl rfl ?_; intro sq H8 bq fq Oq W8 l8 u8 p8 q8 K8
        have E8 := Ext.keeps W0 E7 hN K8 l8 W8
        have Nq := hN.step E7.n p8 q8
        have hcb := K8.at hcb (Ne.symm hbc) rfl
        have hbq : bq ≠ cb := by rcases p8 with h | h <;> omega
        obtain ⟨oq, cq, rfl, hcq, RQ⟩ := Oq.read
        refine o_st W8 (by simp only [ev, envOf, val_set, ofValue, ofCell, ↓reduceIte, Nat.reduceEqDiff] <;> rfl) (by simp only [ev, envOf, val_set, ofValue, ofCell, ↓reduceIte, Nat.reduceEqDiff] <;> rfl) hcb Ty.csz28 rfl (Nat.le_of_ble_eq_true rfl) (by rfl) rfl rfl ?_; intro H9 n9 W9 A9 K9
        have A9 : H9.at cb = some (.row [.sl (.mt bq) (oq) (l.length + 1) cq] 28 false none) := A9
        have E9 := Ext.put W0 E8 (by have := E8.n; omega) K9 n9 W9
        refine o_nil ?_
        refine w_seq ?_
        refine w_region ?_
        refine o_rd (r_assign (by simp only [ev, envOf, val_set, ofValue, ofCell, ↓reduceIte, Nat.reduceEqDiff] <;> rfl)) rfl rfl ?_
        refine o_nil ?_
        refine w_ret ⟨.inr rfl, rfl, .bool (true), (show resultA Try.prog [.tmp 3] _ = _ by simp only [resultA, resultsA, envOf, val_set, ↓reduceIte, Nat.reduceEqDiff, Option.map_some] <;> rfl), ?_⟩
        try dsimp only
        refine ⟨rfl, (l ++ [n]), _, _, ⟨_, A9, .inr ⟨by simp, ?_, hbq⟩, Nq, hcb0⟩, ⟨W9, by omega, E9, fun c x h h1 h2 h3 => K9.own (K8 c x (X7.keep _ _ (X1.keep _ _ h)) h2 h3) h1, p8.elim .inl (fun h => .inr (by omega)), q8.elim .inl (fun h => h.elim (fun h => .inr (.inl h)) (fun h => .inr (.inr ⟨_, h, by omega⟩))), fun _ => (Oq.keep (H' := H9) (fun x hx _ => K9.own hx hbq)).lt W9, fun _ g e => (Oq.keep (H' := H9) (fun x hx _ => K9.own hx hbq)).famlt W9 e⟩, fun q => by rw [List.mem_append, List.mem_singleton]; exact ⟨fun h => h.elim .inl (fun h => .inr ⟨by omega, by omega, h⟩), fun h => h.elim .inl (fun h => .inr h.2.2)⟩, by simp⟩
        have hO := Oq.keep (H' := H9) (fun x hx _ => K9.own hx hbq)
        rw [List.length_append, List.length_singleton, List.map_append]; exact hO
    · have hc3 := dec_f hc3
      refine w_skip ?_
      refine w_seq ?_
      refine w_region ?_
      refine o_rd (r_assign (by simp only [ev, envOf, val_set, ofValue, ofCell, ↓reduceIte, Nat.reduceEqDiff] <;> rfl)) rfl rfl ?_
      refine o_nil ?_
      refine w_ret ⟨.inr rfl, rfl, .bool (true), (show resultA Try.prog [.tmp 3] _ = _ by simp only [resultA, resultsA, envOf, val_set, ↓reduceIte, Nat.reduceEqDiff, Option.map_some] <;> rfl), ?_⟩
      try dsimp only
      exact ⟨rfl, l, b, f, Cell.ext ⟨sv, hcbS, hlsS, hN, hcb0⟩ X1, ⟨W1, by omega, E1, fun c x h _ _ _ => X1.keep _ _ h, .inl rfl, .inr (.inl rfl), fun _ => by omega, fun h g e => by have := h g e; omega⟩, fun q => ⟨.inl, fun h => h.elim id (fun h => by exfalso; omega)⟩, Nat.le_succ _⟩
end Go.Proofs.Ytenfjdkeikjhlaa.Vs
