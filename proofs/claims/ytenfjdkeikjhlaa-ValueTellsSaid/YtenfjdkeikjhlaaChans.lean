/-
  value.Chans: the channels in a value, rising.
-/
import Derived.Test.YtenfjdkeikjhlaaAll
import Derived.Test.YtenfjdkeikjhlaaVjU
set_option autoImplicit false
set_option linter.unusedVariables false
set_option linter.unusedSimpArgs false
namespace Go.Proofs.Ytenfjdkeikjhlaa.Vs
open Go.VI Go.Proofs
variable {orc : CallF}
set_option maxRecDepth 100000 in
set_option maxHeartbeats 4000000 in
theorem chans_fin (ho : NoOrcBut [9, 35, 36] orc) (ho35 : ∀ a H, orc 35 a H = sortA 35 35 a H) (ho36 : ∀ a H, orc 36 a H = compactA 36 36 a H) {H0 : AH} (W0 : Wf H0) (ka na : Int) (la : List V) (sa : AV) (hS : SA H0 la sa) (hN0 : (V.mk ka na la).cnt ≤ 1000000) :
    Fin Try.prog orc 12 [.agg [.int .i64 ka, .int .i64 na, sa]] H0 (fun r H' => ∃ l, Rise l ∧ (∀ q, q ∈ l ↔ q ∈ V.ch (.mk ka na la)) ∧ l.length ≤ 1000000 ∧ ((l = [] ∧ r = .nils) ∨ ∃ b f, 1 ≤ l.length ∧ Own H' 3 1 r l.length (l.map (AV.int .i64)) b f ∧ New H0 b f) ∧ Ext H0 H') := by
  have E0 := Ext.refl W0
  refine fin_of Try.func12 rfl (by rw [Try.ntmps12]; simp) (ho _ rfl _ _) ?_
  rw [Try.ntmps12]
  refine w_seq (w_region ?_)
  refine o_nw W0 (a_box (by simp only [ev, val_set, ofValue, ofCell, ↓reduceIte, Nat.reduceEqDiff, envOf] <;> rfl)) rfl rfl rfl (by simp) ?_; intro H1 n1 W1 X1 A1; have E1 := E0.trans X1
  have A1 : H1.at H0.n = some (.row [.int .i64 ka, .int .i64 na, sa] 24 false none) := A1
  refine o_rd (r_assign (by simp only [ev, val_set, ofValue, ofCell, ↓reduceIte, Nat.reduceEqDiff, envOf] <;> rfl)) rfl rfl ?_
  refine o_nil ?_
  refine w_seq (w_region ?_)
  refine o_nw W1 (a_alloc Ty.zero28) rfl rfl rfl (by simp) ?_; intro H2 n2 W2 X2 A3; have E2 := E1.trans X2
  have A3 : H2.at H1.n = some (.row [.nils] 28 false none) := A3
  replace A1 := X2.keep _ _ A1
  refine o_nil ?_
  refine w_seq (w_region ?_)
  refine o_rd (r_loadN (cs := [.int .i64 ka, .int .i64 na, sa]) Ty.agg24 Ty.csz24 (by simp only [ev, val_set, ofValue, ofCell, ↓reduceIte, Nat.reduceEqDiff, envOf] <;> rfl) (read_mt A1 (Nat.le_of_ble_eq_true rfl))) rfl rfl ?_
  refine o_rd (r_makeFunc (a := []) (b := [.ptr (.mt H1.n) 0]) (by simp only [evs, ev, val_set, ofValue, ofCell, ↓reduceIte, Nat.reduceEqDiff, envOf] <;> rfl) (by simp only [evs, ev, val_set, ofValue, ofCell, ↓reduceIte, Nat.reduceEqDiff, envOf] <;> rfl)) rfl rfl ?_
  refine o_cl rfl rfl (by simp only [evs, ev, val_set, ofValue, ofCell, ↓reduceIte, Nat.reduceEqDiff, envOf] <;> rfl) rfl (all_fin ho W1 W2 X2 ka na la sa (hS.ext X1) H1.n A3 (Nat.le_refl _) hN0) rfl rfl ?_; rintro r6 H3 ⟨l, b, f, hC, W3, hmem, hlen, E3⟩
  refine o_nil ?_
  obtain ⟨sv, hcv, hlv, hNv, -⟩ := hC
  have hrc : H3.read (.mt H1.n) 0 1 = some [sv] := read_mt hcv (Nat.le_of_ble_eq_true rfl)
  rcases hlv with ⟨rfl, rfl⟩ | ⟨hl1, Ol, hbc⟩
  · refine w_seq (w_region ?_)
    refine o_rd (r_load1 Ty.agg28 (by simp only [ev, val_set, ofValue, ofCell, ↓reduceIte, Nat.reduceEqDiff, envOf] <;> rfl) hrc) rfl rfl ?_
    refine o_cl rfl rfl (by simp only [evs, ev, val_set, ofValue, ofCell, ↓reduceIte, Nat.reduceEqDiff, envOf] <;> rfl) rfl (fin_placeN W3 ho35) rfl rfl ?_; rintro _ _ ⟨rfl, rfl⟩
    refine o_nil ?_
    refine w_seq (w_region ?_)
    refine o_rd (r_load1 Ty.agg28 (by simp only [ev, val_set, ofValue, ofCell, ↓reduceIte, Nat.reduceEqDiff, envOf] <;> rfl) hrc) rfl rfl ?_
    refine o_cl rfl rfl (by simp only [evs, ev, val_set, ofValue, ofCell, ↓reduceIte, Nat.reduceEqDiff, envOf] <;> rfl) rfl (fin_placeN W3 ho36) rfl rfl ?_; rintro _ _ ⟨rfl, rfl⟩
    refine o_rd (r_assign (by simp only [ev, val_set, ofValue, ofCell, ↓reduceIte, Nat.reduceEqDiff, envOf] <;> rfl)) rfl rfl ?_
    refine o_nil ?_
    refine w_ret ⟨.inr rfl, rfl, .nils, (show resultA Try.prog [.tmp 2] _ = _ by simp only [resultA, resultsA, envOf, val_set, ↓reduceIte, Nat.reduceEqDiff, Option.map_some] <;> rfl), ?_⟩
    exact ⟨[], List.Pairwise.nil, hmem, by simp, .inl ⟨rfl, rfl⟩, E1.trans E3⟩
  · obtain ⟨ol, cl, rfl, hcl, -⟩ := Ol.read
    refine w_seq (w_region ?_)
    refine o_rd (r_load1 Ty.agg28 (by simp only [ev, val_set, ofValue, ofCell, ↓reduceIte, Nat.reduceEqDiff, envOf] <;> rfl) hrc) rfl rfl ?_
    refine o_cl rfl rfl (by simp only [evs, ev, val_set, ofValue, ofCell, ↓reduceIte, Nat.reduceEqDiff, envOf] <;> rfl) rfl (fin_place W3 ho35 srt_len Ol hl1 (by omega)) rfl rfl ?_; rintro _ H4 ⟨rfl, O4, W4, n4, K4⟩
    have E4 := Ext.keeps W1 E3 hNv K4 (by omega) W4
    have hrc4 : H4.read (.mt H1.n) 0 1 = some [.sl (.mt b) ol l.length cl] := read_mt (K4.at hcv (Ne.symm hbc) rfl) (Nat.le_of_ble_eq_true rfl)
    refine o_nil ?_
    refine w_seq (w_region ?_)
    refine o_rd (r_load1 Ty.agg28 (by simp only [ev, val_set, ofValue, ofCell, ↓reduceIte, Nat.reduceEqDiff, envOf] <;> rfl) hrc4) rfl rfl ?_
    refine o_cl rfl rfl (by simp only [evs, ev, val_set, ofValue, ofCell, ↓reduceIte, Nat.reduceEqDiff, envOf] <;> rfl) rfl (fin_place W4 ho36 cmpz_len O4 hl1 (by omega)) rfl rfl ?_; rintro _ H5 ⟨rfl, O5, W5, n5, K5⟩
    have E5 := Ext.keeps W1 E4 hNv K5 (by omega) W5
    refine o_rd (r_assign (by simp only [ev, val_set, ofValue, ofCell, ↓reduceIte, Nat.reduceEqDiff, envOf] <;> rfl)) rfl rfl ?_
    refine o_nil ?_
    refine w_ret ⟨.inr rfl, rfl, .sl (.mt b) ol (cmp (srt l)).length cl, (show resultA Try.prog [.tmp 2] _ = _ by simp only [resultA, resultsA, envOf, val_set, ↓reduceIte, Nat.reduceEqDiff, Option.map_some] <;> rfl), ?_⟩
    obtain ⟨c1, c2, c3, c4⟩ := cmp_rise (srt_le l)
    rw [srt_len] at c3 c4
    have O6 := own_cut O5 c3
    refine ⟨cmp (srt l), c1, fun q => ((c2 q).trans srt_mem).trans (hmem q), by omega, .inr ⟨b, f, c4 hl1, ?_, ⟨by have := hNv.1; omega, fun g hg => by have := hNv.2 g hg; omega⟩⟩, E1.trans E5⟩
    have e : ((cmpz (srt l)).map (AV.int .i64)).take ((cmp (srt l)).length * 1) = (cmp (srt l)).map (AV.int .i64) := by
      rw [Nat.mul_one, ← List.map_take]
      unfold cmpz
      rw [List.take_left]
    rw [e] at O6
    exact O6
end Go.Proofs.Ytenfjdkeikjhlaa.Vs
