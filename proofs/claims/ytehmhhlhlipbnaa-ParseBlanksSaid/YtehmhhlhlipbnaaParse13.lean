/-
 The height of each node.
-/
import Derived.Test.YtehmhhlhlipbnaaParse12
set_option autoImplicit false
set_option linter.unusedVariables false
set_option linter.unusedSimpArgs false
namespace Go.Proofs.Ytehmhhlhlipbnaa.Vs
open Go.VI Go.Proofs
variable {orc : CallF}
/-- the greatest height of kids below i, and h -/
def hOf (hs : List Int) (i : Nat) : List Int → Int → Int
 | [], h => h
 | k :: r, h => hOf hs i r (if 0 ≤ k ∧ k < i then max h (hs.getD k.toNat 0) else h)
/-- the heights of the first nodes -/
def hts (l : List ND) : Nat → List Int
 | 0 => []
 | n + 1 => hts l n ++ [hOf (hts l n) n (match l[n]? with | some v => v.ks | none => []) 0 + 1]
theorem hts_len (l : List ND) : ∀ n, (hts l n).length = n
 | 0 => rfl
 | n + 1 => by simp [hts, hts_len l n]
theorem hOf_in {hs : List Int} {i a j : Nat} {ks : List Int} {h : Int} (hj : j < ks.length) (hk : ks[j] = (a : Int)) (ha : a < i) (hl : a < hs.length) : hOf hs i (ks.drop j) h = hOf hs i (ks.drop (j + 1)) (max h hs[a]) := by
 rw [List.drop_eq_getElem_cons hj, hk]
 simp only [hOf]
 rw [if_pos (by omega)]
 simp [List.getD_eq_getElem?_getD, List.getElem?_eq_getElem hl]
theorem hOf_out {hs : List Int} {i j : Nat} {ks : List Int} {h : Int} (hj : j < ks.length) (hk : ¬ (0 ≤ ks[j] ∧ ks[j] < i)) : hOf hs i (ks.drop j) h = hOf hs i (ks.drop (j + 1)) h := by
 rw [List.drop_eq_getElem_cons hj]
 simp only [hOf]
 rw [if_neg hk]
theorem hts_at {l : List ND} {i : Nat} (hi : i < l.length) : hts l (i + 1) = hts l i ++ [hOf (hts l i) i l[i].ks 0 + 1] := by
 simp only [hts, List.getElem?_eq_getElem hi]
theorem hOf_bound {hs : List Int} {i : Nat} (hb : ∀ j, (h : j < hs.length) → 0 ≤ hs[j] ∧ hs[j] ≤ j + 1) : ∀ (ks : List Int) (h : Int), 0 ≤ h → h ≤ i → 0 ≤ hOf hs i ks h ∧ hOf hs i ks h ≤ i
 | [], h, h1, h2 => ⟨h1, h2⟩
 | k :: r, h, h1, h2 => by
  simp only [hOf]
  by_cases c : 0 ≤ k ∧ k < i
  ·rw [if_pos c]
   have : 0 ≤ hs.getD k.toNat 0 ∧ hs.getD k.toNat 0 ≤ i := by
    by_cases q : k.toNat < hs.length
    ·have := hb _ q
     rw [List.getD_eq_getElem?_getD, List.getElem?_eq_getElem q]
     simp only [Option.getD_some]; omega
    ·rw [List.getD_eq_getElem?_getD, List.getElem?_eq_none (by omega)]
     simp only [Option.getD_none]; omega
   exact hOf_bound hb r _ (by omega) (by omega)
  ·rw [if_neg c]; exact hOf_bound hb r _ h1 h2
theorem hts_bound (l : List ND) : ∀ n j, (h : j < (hts l n).length) → 0 ≤ (hts l n)[j] ∧ (hts l n)[j] ≤ j + 1
 | 0, j, h => by simp [hts] at h
 | n + 1, j, h => by
  have hn := hts_len l n
  by_cases c : j < n
  ·have := hts_bound l n j (by omega)
   simp only [hts]
   rw [List.getElem_append_left (by omega)]
   exact this
  ·obtain rfl : j = n := by have := hts_len l (n + 1); omega
   simp only [hts]
   rw [List.getElem_append_right (by omega)]
   simp only [hn, Nat.sub_self, List.getElem_cons_zero]
   have := hOf_bound (i := j) (hts_bound l j) (match l[j]? with | some v => v.ks | none => []) 0 (by omega) (by omega)
   omega
set_option maxRecDepth 100000 in
set_option maxHeartbeats 4000000 in
theorem height_fin (ho : NoOrcBut [7, 21, 69, 81] orc) {H0 : AH} (W0 : Wf H0) (l : List ND) (sl : AV) (hL : NS H0 l sl) (hll : l.length ≤ 2147483647) (hl0 : 0 < l.length) : Fin Try.prog orc 16 [sl] H0 (fun r H' => ∃ loc off cap, r = .sl loc off l.length cap ∧ Ext H0 H' ∧ H'.read loc off l.length = some ((hts l l.length).map (AV.int .i64))) := by
 have E0 := Ext.refl W0
 refine fin_of Try.func16 rfl (by rw [Try.ntmps16]; simp) (ho _ rfl _ _) ?_
 rw [Try.ntmps16]
 refine w_sr ?_
 refine o_as ?_
 refine o_nil ?_
 refine w_sr ?_
 refine o_as ?_
 refine o_nil ?_
 refine w_seq ?_
 refine w_sr ?_
 refine o_mv ?_
 refine o_rd (r_len (n := l.length) Try.underlying31 tE hL.lenOf) rfl rfl ?_
 refine o_mv ?_
 refine o_nil ?_
 refine w_block ?_
 refine w_loop (fun m s => ∃ (e : Env) (H : AH) (i : Nat) (so : AV), s = ⟨e, H, []⟩ ∧ e.val 0 = sl ∧ e.val 2 = .nils ∧ e.val 3 = so ∧ e.val 9 = sl ∧ e.val 10 = .int .i64 (((l.length : Nat) : Int)) ∧ e.val 11 = .int .i64 (((i : Nat) : Int)) ∧ Wf H ∧ Ext H0 H ∧ (i + m = l.length) ∧ (GI H0 H (hts l i) so)) (l.length) ⟨_, H0, 0, .nils, rfl, tV, tV, tV, tV, tV, tV, W0, E0, (by omega), (.inl ⟨rfl, rfl⟩)⟩ ?_
 intro m s hi
 obtain ⟨e, H1, i, so, rfl, vt0, vt2, vt3, vt9, vt10, vt11, W1, E1, him, HG⟩ := hi
 have vA := And.intro vt0 (And.intro vt2 (And.intro vt3 (And.intro vt9 (And.intro vt10 vt11))))
 refine w_sr ?_
 refine o_rd (r_lt (a := ((i : Nat) : Int)) (b := ((l.length : Nat) : Int)) tE tE) rfl rfl ?_
 refine o_nil ?_
 refine w_seq ?_
 refine w_cond tE (fun hB2 => ?_) (fun hB2 => ?_)
 ·have hc2 := dec_t hB2
  refine w_skip ?_
  refine w_seq ?_
  refine w_block ?_
  refine w_sr ?_
  have hi : i < l.length := by omega
  obtain ⟨loc1, off1, cap1, sk, rfl, hr1, hK⟩ := hL.get hi
  have hkb := hK.bound; have hHt := hts_at hi; have hbd := hts_bound l i; have hhl := hts_len l i
  refine o_mv ?_
  refine o_rd (r_indexAddr Try.underlying31 Ty.csz51 tE tE hi) rfl rfl ?_
  refine o_rd (r_loadN Ty.agg51 Ty.csz51 tE (Ext.read (H := H0) (by assumption) hr1)) rfl rfl ?_
  refine o_nw W1 (a_alloc Ty.zero51) rfl rfl rfl (by simp) ?_; intro H3 n3 W3 X3 A3
  have A3 : H3.at H1.n = some (.row [.int .i64 (0), .int .i64 (0), .nils, .str ([]), .int .i64 (0)] 51 false none) := A3
  have E3 := E1.trans X3
  have g3 : H0.n ≤ H1.n := E1.n
  refine o_as ?_
  refine o_st W3 tE tE A3 Ty.csz51 rfl (Nat.le_of_ble_eq_true rfl) (by first | rfl | (exact (NA.of hK).ones)) rfl rfl ?_; intro H4 n4 W4 A4 K4
  have A4 : H4.at H1.n = some (.row [.int .i64 (l[i].k), .int .i64 (l[i].at_), sk, .str (l[i].nm), .int .i64 (l[i].n)] 51 false none) := A4
  have E4 := Ext.put W0 E3 (by have := E3.n; omega) K4 n4 W4
  have hWi := W1; have hXi := X3; have hKi := K4
  refine o_nil ?_
  refine w_sr ?_
  refine o_as ?_
  refine o_nil ?_
  refine w_seq ?_
  refine w_sr ?_
  refine o_rd (r_fieldAddr Ty.fo51_2 tE) rfl rfl ?_
  refine o_rd (r_load1 (v := sk) Ty.agg39 tE (read_mt A4 (Nat.le_of_ble_eq_true rfl))) rfl rfl ?_
  refine o_rd (r_len (n := l[i].ks.length) Try.underlying39 tE hK.lenOf) rfl rfl ?_
  refine o_mv ?_
  refine o_nil ?_
  refine w_block ?_
  have HGi := HG.put hWi hXi (Nat.le_refl _) hKi
  refine w_loop (fun m s => ∃ (e : Env) (H : AH) (j : Nat) (hh : Int), s = ⟨e, H, []⟩ ∧ e.val 0 = .sl loc1 (off1) (l.length) cap1 ∧ e.val 2 = .nils ∧ e.val 3 = so ∧ e.val 4 = .int .i64 (((i : Nat) : Int)) ∧ e.val 5 = .ptr (.mt (H1.n)) (0) ∧ e.val 6 = .int .i64 (hh) ∧ e.val 9 = .sl loc1 (off1) (l.length) cap1 ∧ e.val 10 = .int .i64 (((l.length : Nat) : Int)) ∧ e.val 11 = .int .i64 (((i : Nat) : Int)) ∧ e.val 17 = sk ∧ e.val 18 = .int .i64 (((l[i].ks.length : Nat) : Int)) ∧ e.val 19 = .int .i64 (((j : Nat) : Int)) ∧ Wf H ∧ Ext H0 H ∧ H.at (H1.n) = some (.row [.int .i64 (l[i].k), .int .i64 (l[i].at_), sk, .str (l[i].nm), .int .i64 (l[i].n)] 51 false none) ∧ (j + m = l[i].ks.length) ∧ (hOf (hts l i) i (l[i].ks.drop j) hh = hOf (hts l i) i l[i].ks 0) ∧ (0 ≤ hh ∧ hh ≤ i) ∧ (GI H0 H (hts l i) so)) (l[i].ks.length) ⟨_, H4, 0, 0, rfl, tV, tV, tV, tV, tV, tV, tV, tV, tV, tV, tV, tV, W4, E4, A4, (by omega), (by rw [List.drop_zero]), (by omega), HGi⟩ ?_
  intro m s hi
  obtain ⟨e, H5, j, hh, rfl, vt0, vt2, vt3, vt4, vt5, vt6, vt9, vt10, vt11, vt17, vt18, vt19, W5, E5, A4, hjm, hho, hhb, HG2⟩ := hi
  have vA := And.intro vt0 (And.intro vt2 (And.intro vt3 (And.intro vt4 (And.intro vt5 (And.intro vt6 (And.intro vt9 (And.intro vt10 (And.intro vt11 (And.intro vt17 (And.intro vt18 vt19))))))))))
  have l5_0 := W5.lt A4
  refine w_sr ?_
  refine o_rd (r_lt (a := ((j : Nat) : Int)) (b := ((l[i].ks.length : Nat) : Int)) tE tE) rfl rfl ?_
  refine o_nil ?_
  refine w_seq ?_
  refine w_cond tE (fun hB6 => ?_) (fun hB6 => ?_)
  ·have hc6 := dec_t hB6
   refine w_skip ?_
   refine w_seq ?_
   refine w_block ?_
   refine w_sr ?_
   have hj : j < l[i].ks.length := by omega
   obtain ⟨loc2, off2, cap2, rfl, hr2⟩ := hK.get hj
   obtain ⟨kd, hkd⟩ : ∃ kd, l[i].ks[j] = kd := ⟨_, rfl⟩
   rw [hkd] at hr2
   refine o_rd (r_indexAddr Try.underlying39 Ty.csz3 tE tE hj) rfl rfl ?_
   refine o_rd (r_load1 Ty.agg3 tE (Ext.read (H := H0) (by assumption) hr2)) rfl rfl ?_
   refine o_as ?_
   refine o_nil ?_
   refine w_sr ?_
   refine o_mv ?_
   refine o_rd (r_ge (a := kd) (b := 0) tE tE) rfl rfl ?_
   refine o_mv ?_
   cases hg7 : (decide (0 ≤ kd) : Bool)
   ·have hg7 := dec_f hg7
    refine o_sk rfl ((wanted_of (b := false) rfl rfl rfl tV).trans rfl) ?_
    refine o_sk rfl ((wanted_of (b := false) rfl rfl rfl tV).trans rfl) ?_
    refine o_sk rfl ((wanted_of (b := false) rfl rfl rfl tV).trans rfl) ?_
    refine o_rd (r_pick (t := false) tE (fun h => by cases h) (fun _ => tE)) rfl rfl ?_
    refine o_nil ?_
    refine w_cond (t := false) tE (fun h => by cases h) (fun _ => ?_)
    refine w_skip ?_
    refine w_region ?_
    refine o_rd (r_addE (a := ((j : Nat) : Int)) (b := 1) (c := ((j + 1 : Nat) : Int)) tE tE (by omega) (by omega) (by omega)) rfl rfl ?_
    refine o_mv ?_
    refine o_nil ?_
    exact ⟨l[i].ks.length - (j + 1), (by omega), _, H5, j + 1, hh, rfl, tV, tV, tV, tV, tV, tV, tV, tV, tV, tV, tV, tV, W5, E5, A4, (by omega), (by rw [← hho]; first | exact (hOf_in hj hkd (by omega) hal).symm | exact (hOf_out hj (by rw [hkd]; omega)).symm), (by omega), HG2⟩
   ·have hg7 := dec_t hg7
    refine o_rd (r_move tE) rfl ((wanted_of (b := true) rfl rfl rfl tV).trans rfl) ?_
    refine o_rd (r_move tE) rfl ((wanted_of (b := true) rfl rfl rfl tV).trans rfl) ?_
    refine o_rd (r_lt (a := kd) (b := ((i : Nat) : Int)) tE tE) rfl ((wanted_of (b := true) rfl rfl rfl tV).trans rfl) ?_
    refine o_rd (r_pick (t := true) tE (fun _ => tE) (fun h => by cases h)) rfl rfl ?_
    refine o_nil ?_
    refine w_cond tE (fun hB8 => ?_) (fun hB8 => ?_)
    ·have hc8 := dec_t hB8
     refine w_region ?_
     obtain ⟨a, rfl⟩ : ∃ a : Nat, kd = (a : Int) := ⟨kd.toNat, by omega⟩
     have hai : a < i := by omega
     have hal : a < (hts l i).length := by omega
     have hba := hbd a hal
     obtain ⟨loc3, off3, cap3, rfl, hr3⟩ := (HG2.si (by omega)).get hal
     refine o_mv ?_
     refine o_mv ?_
     refine o_mv ?_
     refine o_rd (r_indexAddr Try.underlying39 Ty.csz3 tE tE hal) rfl rfl ?_
     refine o_rd (r_load1 Ty.agg3 tE hr3) rfl rfl ?_
     refine o_rd (r_max (a := hh) (b := ((hts l i)[a]'hal)) tE tE) rfl rfl ?_
     refine o_as ?_
     refine o_nil ?_
     refine w_region ?_
     refine o_rd (r_addE (a := ((j : Nat) : Int)) (b := 1) (c := ((j + 1 : Nat) : Int)) tE tE (by omega) (by omega) (by omega)) rfl rfl ?_
     refine o_mv ?_
     refine o_nil ?_
     exact ⟨l[i].ks.length - (j + 1), (by omega), _, H5, j + 1, max (hh) (((hts l i)[a]'hal)), rfl, tV, tV, tV, tV, tV, tV, tV, tV, tV, tV, tV, tV, W5, E5, A4, (by omega), (by rw [← hho]; first | exact (hOf_in hj hkd (by omega) hal).symm | exact (hOf_out hj (by rw [hkd]; omega)).symm), (by omega), HG2⟩
    ·have hc8 := dec_f hB8
     refine w_skip ?_
     refine w_region ?_
     refine o_rd (r_addE (a := ((j : Nat) : Int)) (b := 1) (c := ((j + 1 : Nat) : Int)) tE tE (by omega) (by omega) (by omega)) rfl rfl ?_
     refine o_mv ?_
     refine o_nil ?_
     exact ⟨l[i].ks.length - (j + 1), (by omega), _, H5, j + 1, hh, rfl, tV, tV, tV, tV, tV, tV, tV, tV, tV, tV, tV, tV, W5, E5, A4, (by omega), (by rw [← hho]; first | exact (hOf_in hj hkd (by omega) hal).symm | exact (hOf_out hj (by rw [hkd]; omega)).symm), (by omega), HG2⟩
  ·have hc6 := dec_f hB6
   first | refine w_exit (blk_exit ?_) | refine w_exit (show (2 = 2 → _) ∧ (2 ≠ 2 → _) from ⟨fun _ => ?_, fun c => absurd rfl c⟩)
   refine w_region ?_
   refine o_mv ?_
   refine o_mv ?_
   refine o_rd (r_addE (a := hh) (b := 1) (c := hh + 1) tE tE (by omega) (by omega) (by omega)) rfl rfl ?_
   have hhf : hOf (hts l i) i l[i].ks 0 = hh := by rw [← hho, show j = l[i].ks.length by omega, List.drop_length]; rfl
   refine o_nw W5 (a_build1 Try.underlying39 Ty.csz3 Ty.zero3 rfl tE rfl (by decide)) rfl rfl rfl (by simp) ?_; intro H9 n9 W9 X9 A9
   have E9 := E5.trans X9
   refine o_apG W0 W9 E9 Try.underlying39 Try.underlying39 rfl Ty.csz3 Ty.byt3 Ty.zero3 rfl tE tE (HG2.ext X9) A9 (by omega) rfl rfl ?_; intro so2 H10 HG3 W10 E10
   rw [← hhf, ← hHt] at HG3
   refine o_as ?_
   refine o_nil ?_
   refine w_region ?_
   refine o_rd (r_addE (a := ((i : Nat) : Int)) (b := 1) (c := ((i + 1 : Nat) : Int)) tE tE (by omega) (by omega) (by omega)) rfl rfl ?_
   refine o_mv ?_
   refine o_nil ?_
   exact ⟨l.length - (i + 1), (by omega), _, H10, i + 1, so2, rfl, tV, tV, tV, tV, tV, tV, W10, E10, (by omega), HG3⟩
 ·have hc2 := dec_f hB2
  first | refine w_exit (blk_exit ?_) | refine w_exit (show (0 = 0 → _) ∧ (0 ≠ 0 → _) from ⟨fun _ => ?_, fun c => absurd rfl c⟩)
  refine w_sr ?_
  refine o_mv ?_
  refine o_as ?_
  refine o_nil ?_
  refine w_ret ⟨.inr rfl, rfl, so, (show resultA Try.prog [.tmp 2] _ = _ from tR), ?_⟩
  try dsimp only
  obtain rfl : i = l.length := by omega
  rcases HG with ⟨e1, e2⟩ | ⟨hn1, b, f, N, O⟩
  ·exfalso; have := hts_len l l.length; rw [e1] at this; simp at this; omega
  obtain ⟨off, cap, rfl, hc, hr⟩ := O.read
  exact ⟨.mt b, off, cap, by rw [hts_len], E1, by rw [Nat.mul_one, hts_len] at hr; exact hr⟩
end Go.Proofs.Ytehmhhlhlipbnaa.Vs
