-- written for this claim over a table of functions with stand-ins
import Derived.Test.YtapagakfckjhdaaPKindsSamex0
import Derived.Test.YtapagakfckjhdaaCpy
import Derived.Test.YtapagakfckjhdaaTa
import Derived.Test.YtapagakfckjhdaaVi2
namespace Go.Proofs.Ytapagakfckjhdaa.PKindsSame
open Go.RowKit Go.Proofs.YtapagakfckjhdaaW.PrintWords Go.Proofs.YtapagakfckjhdaaW.PrintLast Go.Proofs.YtapagakfckjhdaaW.PrintMore
attribute [local go_sem] max2_int min2_int max_two min_two max_three min_three max_four min_four   -- for this text's walks alone
set_option linter.unusedVariables false
set_option linter.unusedSimpArgs false

/-! ### squintlaw04_beyond: function 9 -/
def squintlaw04_beyond.l0 : Nat → List Int → Int → Int → Option (Bool)
  | 0, _, _, _ => none
  | k + 1, x0, x3, x4 => if x4 < (x0.length : Int) then (if (wrap64 (x3 + 1)) ≥ 2147483647 then (some true) else (if 0 ≤ x4 then (if (rd x0 x4) > (wrap64 (2147483647 - (wrap64 (x3 + 1)))) then (some true) else (squintlaw04_beyond.l0 k x0 (wrap64 ((wrap64 (x3 + 1)) + (rd x0 x4))) (wrap64 (x4 + 1)))) else (none))) else (some false)
def squintlaw04_beyond.f (k : Nat) (l0 : List Int) : Option (Bool) := squintlaw04_beyond.l0 k l0 0 0
theorem squintlaw04_beyond.mono_l : ∀ k, (∀ y0 y1 y2, LeO (squintlaw04_beyond.l0 k y0 y1 y2) (squintlaw04_beyond.l0 (k + 1) y0 y1 y2))
  | 0 => fun _ _ _ r h => by simp [squintlaw04_beyond.l0] at h
  | k + 1 => by
    have ih0 := squintlaw04_beyond.mono_l k
    · intro y0 y1 y2
      unfold squintlaw04_beyond.l0
      repeat' first
      | (with_reducible exact ih0 _ _ _)
      | (with_reducible exact LeO.refl _)
      | (with_reducible exact LeO.none _)
      | (with_reducible refine LeO.ite ?_ ?_)
      | (with_reducible refine LeO.bind ?_ (fun _ => ?_))
      | exact ih0 _ _ _
      | exact LeO.none _
      | refine LeO.ite ?_ ?_
      | refine LeO.bind ?_ (fun _ => ?_)
theorem squintlaw04_beyond.mono : ∀ a0 k, LeO (squintlaw04_beyond.f k a0) (squintlaw04_beyond.f (k + 1) a0) := by
  intro a0 k
  have ih0 := squintlaw04_beyond.mono_l k
  unfold squintlaw04_beyond.f
  repeat' first
      | (with_reducible exact ih0 _ _ _)
      | (with_reducible exact LeO.refl _)
      | (with_reducible exact LeO.none _)
      | (with_reducible refine LeO.ite ?_ ?_)
      | (with_reducible refine LeO.bind ?_ (fun _ => ?_))
      | exact ih0 _ _ _
      | exact LeO.none _
      | refine LeO.ite ?_ ?_
      | refine LeO.bind ?_ (fun _ => ?_)
set_option maxHeartbeats 8000000 in
set_option maxRecDepth 100000 in
theorem squintlaw04_beyond.calls (k : Nat) (A0 : Option Addr) (c0 : Nat) (l0 : List Int) (r : Bool) (w : World) (hr0 : Kd.C (Kd.int .i64) w A0 l0.length l0) (hc0 : l0.length ≤ c0) (h : squintlaw04_beyond.f k l0 = some r) :
    Calls Try.prog 9 #[.slice A0 l0.length c0] w fun e w' => e = .returned (.bool r) ∧ Drawn0 w w' := by
  have HR0 := Aside0.mk hr0
  have HC0 := Aside0.mk hc0
  clear hr0 hc0
  have H : (squintlaw04_beyond.l0 k l0 0 0) = some r := h
  clear h
  have H' := Aside0.mk H
  clear H
  go_enter Try.func9, Try.ntmps9
  go_wp2
  go_loopg [3, 4] k (fun kq v3 v4 w' => ∃ (x3_1 : Int) (x4_1 : Int), v3 = .int .i64 x3_1 ∧ v4 = .int .i64 x4_1 ∧ Aside0 (squintlaw04_beyond.l0 kq l0 x3_1 x4_1 = some r) ∧ Aside0 (kq ≤ k) ∧ Drawn0 w w')
  case atStart => exact ⟨(0), (0), (by first | rfl | (simp; done) | (simp [*]; done)), (by first | rfl | (simp; done) | (simp [*]; done)), H', ⟨Nat.le_refl _⟩, by repeat (first | exact Drawn0.refl _ | apply Drawn0.step)⟩
  case round =>
    clear H'
    obtain ⟨x3_1, x4_1, rfl, rfl, HA, HK1, ⟨m1, rfl⟩⟩ := hrel
    cases gk with
    | zero => exact absurd HA.out (by simp [squintlaw04_beyond.l0])
    | succ k1 =>
      have H := HA.out
      clear HA
      simp only [squintlaw04_beyond.l0] at H
      by_cases c2 : x4_1 < (l0.length : Int)
      · rw [if_pos c2] at H
        have c2b0 : decide (x4_1 < (l0.length : Int)) = true := decide_eq_true c2
        clear c2
        by_cases c3 : (wrap64 (x3_1 + 1)) ≥ 2147483647
        · rw [if_pos c3] at H
          have c3b0 : decide (2147483647 ≤ (wrap64 (x3_1 + 1))) = true := decide_eq_true c3
          clear c3
          obtain rfl := Option.some.inj H
          go_wp2
          go_ret
          exact ⟨by first | rfl | (simp; done) | (simp [*]; done), by repeat (first | exact Drawn0.refl _ | apply Drawn0.step)⟩
        · rw [if_neg c3] at H
          have c3b0 : decide (2147483647 ≤ (wrap64 (x3_1 + 1))) = false := decide_eq_false c3
          clear c3
          by_cases c4 : 0 ≤ x4_1
          · rw [if_pos c4] at H
            have c4b0 : decide (0 ≤ x4_1) = true := decide_eq_true c4
            clear c4
            by_cases c5 : (rd l0 x4_1) > (wrap64 (2147483647 - (wrap64 (x3_1 + 1))))
            · rw [if_pos c5] at H
              have c5b0 : decide ((wrap64 (2147483647 - (wrap64 (x3_1 + 1)))) < (rd l0 x4_1)) = true := decide_eq_true c5
              clear c5
              obtain rfl := Option.some.inj H
              have p101 : 0 ≤ (x4_1 : Int) := of_decide_eq_true (by first | (with_reducible assumption) | assumption)
              have q101 : x4_1 < (l0.length : Int) := of_decide_eq_true (by first | (with_reducible assumption) | assumption)
              obtain ⟨ad101, e101, hx101_0⟩ := Kd.at_int HR0.out x4_1 p101 q101
              cases e101
              replace p101 := eq_true p101
              replace q101 := eq_true q101
              go_wp2
              go_ret
              exact ⟨by first | rfl | (simp; done) | (simp [*]; done), by repeat (first | exact Drawn0.refl _ | apply Drawn0.step)⟩
            · rw [if_neg c5] at H
              have c5b0 : decide ((wrap64 (2147483647 - (wrap64 (x3_1 + 1)))) < (rd l0 x4_1)) = false := decide_eq_false c5
              clear c5
              have H' := Aside0.mk H
              clear H
              have p101 : 0 ≤ (x4_1 : Int) := of_decide_eq_true (by first | (with_reducible assumption) | assumption)
              have q101 : x4_1 < (l0.length : Int) := of_decide_eq_true (by first | (with_reducible assumption) | assumption)
              obtain ⟨ad101, e101, hx101_0⟩ := Kd.at_int HR0.out x4_1 p101 q101
              cases e101
              replace p101 := eq_true p101
              replace q101 := eq_true q101
              have p102 : 0 ≤ (x4_1 : Int) := of_decide_eq_true (by first | (with_reducible assumption) | assumption)
              have q102 : x4_1 < (l0.length : Int) := of_decide_eq_true (by first | (with_reducible assumption) | assumption)
              obtain ⟨ad102, e102, hx102_0⟩ := Kd.at_int HR0.out x4_1 p102 q102
              obtain rfl : ad101 = ad102 := (by injection e102)
              replace p102 := eq_true p102
              replace q102 := eq_true q102
              go_wp2
              go_roundg k1
              case measure => have := HK1.out; omega
              case rel => exact ⟨(wrap64 ((wrap64 (x3_1 + 1)) + (rd l0 x4_1))), (wrap64 (x4_1 + 1)), (by first | rfl | (simp; done) | (simp [*]; done)), (by first | rfl | (simp; done) | (simp [*]; done)), H', ⟨by have := HK1.out; omega⟩, by repeat (first | exact Drawn0.refl _ | apply Drawn0.step)⟩
          · rw [if_neg c4] at H
            exact absurd H (by simp)
      · rw [if_neg c2] at H
        have c2b0 : decide (x4_1 < (l0.length : Int)) = false := decide_eq_false c2
        clear c2
        obtain rfl := Option.some.inj H
        go_wp2
        go_ret
        exact ⟨by first | rfl | (simp; done) | (simp [*]; done), by repeat (first | exact Drawn0.refl _ | apply Drawn0.step)⟩

/-! ### squintlaw04_shown: function 11 -/
theorem shownTells : Go.VI.tells (Go.VI.acall Try.prog (Go.VI.table tabKinds) 200 11 [] Go.VI.AH.empty) = true := by kernel_rfl
def squintlaw04_shown.f : Option (Bool) := some true
theorem squintlaw04_shown.calls  (r : Bool) (w : World) (h : squintlaw04_shown.f  = some r) :
    Calls Try.prog 11 #[] w fun e w' => e = .returned (.bool r) ∧ Below w.heap.size w w' := by
  obtain rfl := Option.some.inj h
  exact Go.VI.law0 mixed namesOk kindsOk shownTells w


/-! ### squintlaw04_ofRows: function 17 -/
def squintlaw04_ofRows.l0 : Nat → List (S43) → List Int → Int → Option (List Int)
  | 0, _, _, _ => none
  | k + 1, x0, x3, x4 => if x4 < (x0.length : Int) then (if 0 ≤ x4 then (if x3.length < 17592186044416 then (squintlaw04_ofRows.l0 k x0 (x3 ++ [(((rd_T43 x0 x4).f1).length : Int)]) (wrap64 (x4 + 1))) else (none)) else (none)) else (some x3)
def squintlaw04_ofRows.f (k : Nat) (l0 : List (S43)) : Option (List Int) := squintlaw04_ofRows.l0 k l0 (([] : List Int)) 0
theorem squintlaw04_ofRows.mono_l : ∀ k, (∀ y0 y1 y2, LeO (squintlaw04_ofRows.l0 k y0 y1 y2) (squintlaw04_ofRows.l0 (k + 1) y0 y1 y2))
  | 0 => fun _ _ _ r h => by simp [squintlaw04_ofRows.l0] at h
  | k + 1 => by
    have ih0 := squintlaw04_ofRows.mono_l k
    · intro y0 y1 y2
      unfold squintlaw04_ofRows.l0
      repeat' first
      | (with_reducible exact ih0 _ _ _)
      | (with_reducible exact LeO.refl _)
      | (with_reducible exact LeO.none _)
      | (with_reducible refine LeO.ite ?_ ?_)
      | (with_reducible refine LeO.bind ?_ (fun _ => ?_))
      | exact ih0 _ _ _
      | exact LeO.none _
      | refine LeO.ite ?_ ?_
      | refine LeO.bind ?_ (fun _ => ?_)
theorem squintlaw04_ofRows.mono : ∀ a0 k, LeO (squintlaw04_ofRows.f k a0) (squintlaw04_ofRows.f (k + 1) a0) := by
  intro a0 k
  have ih0 := squintlaw04_ofRows.mono_l k
  unfold squintlaw04_ofRows.f
  repeat' first
      | (with_reducible exact ih0 _ _ _)
      | (with_reducible exact LeO.refl _)
      | (with_reducible exact LeO.none _)
      | (with_reducible refine LeO.ite ?_ ?_)
      | (with_reducible refine LeO.bind ?_ (fun _ => ?_))
      | exact ih0 _ _ _
      | exact LeO.none _
      | refine LeO.ite ?_ ?_
      | refine LeO.bind ?_ (fun _ => ?_)
set_option maxHeartbeats 8000000 in
set_option maxRecDepth 100000 in
theorem squintlaw04_ofRows.calls (k : Nat) (A0 : Option Addr) (c0 : Nat) (l0 : List (S43)) (r : List Int) (w : World) (hr0 : Kd.C k43 w A0 l0.length l0) (hc0 : l0.length ≤ c0) (h : squintlaw04_ofRows.f k l0 = some r) :
    Calls Try.prog 17 #[.slice A0 l0.length c0] w fun e w' => ∃ v0_ : Value, e = .returned (v0_) ∧ Kd.R (Kd.int .i64) 3 w' w.heap.size (fun _ => True) v0_ r ∧ Below w.heap.size w w' := by
  have HR0 := Aside0.mk hr0
  have HC0 := Aside0.mk hc0
  clear hr0 hc0
  have HB := Aside0.mk (Below.refl w.heap.size w)
  have H : (squintlaw04_ofRows.l0 k l0 (([] : List Int)) 0) = some r := h
  clear h
  obtain ⟨y106, hy106⟩ : ∃ y_ : List Int, y_ = (([] : List Int)) := ⟨_, rfl⟩
  replace H : (squintlaw04_ofRows.l0 k l0 y106 0) = some r := by first | (rw [hy106]; with_reducible exact H) | (have H2_ := (Option.bind_some _ _).symm.trans H; rw [hy106]; with_reducible exact H2_) | (have H2_ := (Option.bind_some _ _).symm.trans H; with_reducible exact H2_) | with_reducible exact H | (rw [hy106]; exact H) | exact H
  have Ny106 := Aside0.mk hy106
  clear hy106
  have H' := Aside0.mk H
  clear H
  go_enter Try.func17, Try.ntmps17
  go_wp2_with (first | ((with_reducible refine gate_dst (N := 5) rfl ?_); refine Kd.R_lit (Kd.int .i64) _ 3 ?hg (N := 5) ?hd (xs := ([] : List Int)) (inner := []) (ok := fun _ => True) (okp := fun _ => True) ?hr ?hp (fun _ hk => hk) trivial (Below.refl _ _) (Nat.le_refl _) (by simp) ?_; (case hd => rfl); (case hg => rfl); (case hr => first | (go_simp; done) | (go_simp; rfl)); (case hp => exact (Reps.none _ _)); intro v107 w2 ho3 hb hg_ hnew_; clear hg_ hnew_; (first | rw [← Ny106.out] at ho3 | (simp only [Int.reduceToNat] at ho3; rw [← Ny106.out] at ho3)); have n0_ := Aside0.mk (Kd.R_lower ho3 (below_size (by repeat (first | (with_reducible first | exact HB.out | apply below_alloc | apply pw_below_drewN | apply below_drew1) | exact HB.out)))); have n1_ := Aside0.mk (below_step (by repeat (first | (with_reducible first | exact HB.out | apply below_alloc | apply pw_below_drewN | apply below_drew1) | exact HB.out)) hb); clear HB; have HO108 := n0_; have HB := n1_; clear n0_ n1_; clear hb ho3))
  go_loopg [3, 4] k (fun kq v3 v4 w' => ∃ (x3_1 : List Int) (x4_1 : Int), v4 = .int .i64 x4_1 ∧ Aside0 (squintlaw04_ofRows.l0 kq l0 x3_1 x4_1 = some r) ∧ Aside0 (kq ≤ k) ∧ Aside0 (Kd.R (Kd.int .i64) 3 w' w.heap.size (fun _ => True) v3 x3_1) ∧ Aside0 (Below w.heap.size w w'))
  case atStart => exact ⟨(y106), (0), (by first | rfl | (simp; done) | (simp [*]; done)), H', ⟨Nat.le_refl _⟩, ⟨by (with_reducible repeat (first | apply Kd.R_alloc | apply Kd.R_drewN | apply Kd.R_drew)); exact HO108.out⟩, ⟨by repeat (first | (with_reducible first | exact HB.out | apply below_alloc | apply pw_below_drewN | apply below_drew1) | exact HB.out)⟩⟩
  case round =>
    clear H'
    try clear c1
    try clear p2
    obtain ⟨x3_1, x4_1, rfl, HA, HK1, HO_3, HB⟩ := hrel
    cases gk with
    | zero => exact absurd HA.out (by simp [squintlaw04_ofRows.l0])
    | succ k1 =>
      have H := HA.out
      clear HA
      simp only [squintlaw04_ofRows.l0] at H
      by_cases c4 : x4_1 < (l0.length : Int)
      · rw [if_pos c4] at H
        have c4b0 : decide (x4_1 < (l0.length : Int)) = true := decide_eq_true c4
        clear c4
        by_cases c5 : 0 ≤ x4_1
        · rw [if_pos c5] at H
          have c5b0 : decide (0 ≤ x4_1) = true := decide_eq_true c5
          clear c5
          by_cases c6 : x3_1.length < 17592186044416
          · rw [if_pos c6] at H
            have LMc6 := Aside0.mk c6
            clear c6
            obtain ⟨y110, hy110⟩ : ∃ y_ : List Int, y_ = (x3_1 ++ [(((rd_T43 l0 x4_1).f1).length : Int)]) := ⟨_, rfl⟩
            replace H : (squintlaw04_ofRows.l0 k1 l0 y110 (wrap64 (x4_1 + 1))) = some r := by first | (rw [hy110]; with_reducible exact H) | (have H2_ := (Option.bind_some _ _).symm.trans H; rw [hy110]; with_reducible exact H2_) | (have H2_ := (Option.bind_some _ _).symm.trans H; with_reducible exact H2_) | with_reducible exact H | (rw [hy110]; exact H) | exact H
            have Ny110 := Aside0.mk hy110
            clear hy110
            have H' := Aside0.mk H
            clear H
            have p109 : 0 ≤ (x4_1 : Int) := of_decide_eq_true (by first | (with_reducible assumption) | assumption)
            have q109 : x4_1 < (l0.length : Int) := of_decide_eq_true (by first | (with_reducible assumption) | assumption)
            obtain ⟨ad109, A109_1, c109_1, e109, hx109_0, hx109_1, hx109_2, hl109_1, hi109_1⟩ := at_T43 HR0.out x4_1 p109 q109
            cases e109
            replace hx109_0 := (HB.out.cell (World.block_lt_of_cell? w _ hx109_0)).trans hx109_0
            replace hx109_1 := (HB.out.cell (World.block_lt_of_cell? w _ hx109_1)).trans hx109_1
            replace hx109_2 := (HB.out.cell (World.block_lt_of_cell? w _ hx109_2)).trans hx109_2
            have HR109_1 := Aside0.mk hi109_1
            have HC109_1 := Aside0.mk hl109_1
            clear hi109_1 hl109_1
            replace p109 := eq_true p109
            replace q109 := eq_true q109
            go_wp2_with (first | ((with_reducible refine gate_builtin (b := .append) (xs := #[.tmp 12, .tmp 19]) rfl ?_); at_builtin; refine Kd.R_append (Kd.int .i64) (w0 := w) w.heap.size rfl (.tmp 12) (.tmp 19) 24 3 (.int .i64 0) 8 rfl Try.underlying24 info3 rfl (by decide) (by omega) u3 x3_1 (((rd_T43 l0 x4_1).f1).length : Int) [.int .i64 (((rd_T43 l0 x4_1).f1).length : Int)] (fun _ => True) (fun _ => False) rfl rfl ?aP (fun _ hk => hk.elim) ?aF ?aO ?aB ?aS ?aL ?_; (case aP => exact rfl); (case aB => exact (by repeat (first | (with_reducible first | exact HB.out | apply below_alloc | apply pw_below_drewN | apply below_drew1) | exact HB.out))); (case aF => exact (fun _ _ => trivial)); (case aO => exact (by (with_reducible repeat (first | apply Kd.R_alloc | apply Kd.R_drewN | apply Kd.R_drew)); exact HO_3.out)); (case aS => exact (below_size (by repeat (first | (with_reducible first | exact HB.out | apply below_alloc | apply pw_below_drewN | apply below_drew1) | exact HB.out)))); (case aL => have := LMc6.out; omega); intro v111 w7 ho hb hg hat; rw [← Ny110.out] at ho; have n0_ := Aside0.mk (hb); have n1_ := Aside0.mk (ho); clear HB; clear HO_3; have HB := n0_; have HO112 := n1_; clear n0_ n1_; clear ho hb hg hat))
            go_roundg k1
            case measure => have := HK1.out; omega
            case rel => exact ⟨(y110), (wrap64 (x4_1 + 1)), (by first | rfl | (simp; done) | (simp [*]; done)), H', ⟨by have := HK1.out; omega⟩, ⟨by (with_reducible repeat (first | apply Kd.R_alloc | apply Kd.R_drewN | apply Kd.R_drew)); exact HO112.out⟩, ⟨by repeat (first | (with_reducible first | exact HB.out | apply below_alloc | apply pw_below_drewN | apply below_drew1) | exact HB.out)⟩⟩
          · rw [if_neg c6] at H
            exact absurd H (by simp)
        · rw [if_neg c5] at H
          exact absurd H (by simp)
      · rw [if_neg c4] at H
        have c4b0 : decide (x4_1 < (l0.length : Int)) = false := decide_eq_false c4
        clear c4
        obtain rfl := Option.some.inj H
        go_wp2
        go_ret
        exact ⟨_, by first | rfl | (simp [errW_none, errW_some] <;> rfl) | (simp [*, errW_none, errW_some] <;> rfl), by (with_reducible repeat (first | apply Kd.R_alloc | apply Kd.R_drewN | apply Kd.R_drew)); exact HO_3.out, by repeat (first | (with_reducible first | exact HB.out | apply below_alloc | apply pw_below_drewN | apply below_drew1) | exact HB.out)⟩

/-! ### squintlaw04_copied: function 26 -/
def squintlaw04_copied.f (k : Nat) (l0 : List Int) : Option (List Int) := if l0.length < 17592186044416 then some l0 else none
theorem squintlaw04_copied.mono : ∀ a0 k, LeO (squintlaw04_copied.f k a0) (squintlaw04_copied.f (k + 1) a0) := fun _ _ => LeO.refl _
set_option maxHeartbeats 8000000 in
set_option maxRecDepth 100000 in
theorem squintlaw04_copied.calls (k : Nat) (A0 : Option Addr) (c0 : Nat) (l0 : List Int) (r : List Int) (w : World) (hr0 : Kd.C (Kd.int .i64) w A0 l0.length l0) (hc0 : l0.length ≤ c0) (h : squintlaw04_copied.f k l0 = some r) :
    Calls Try.prog 26 #[.slice A0 l0.length c0] w fun e w' => ∃ v0_ : Value, e = .returned (v0_) ∧ Kd.R (Kd.int .i64) 3 w' w.heap.size (fun _ => True) v0_ r ∧ Below w.heap.size w w' := by
  have HR0 := Aside0.mk hr0
  have HC0 := Aside0.mk hc0
  clear hr0 hc0
  have hlt : l0.length < 17592186044416 := by
    unfold squintlaw04_copied.f at h
    split at h
    · assumption
    · cases h
  have Hr : Aside0 (r = l0) := by
    unfold squintlaw04_copied.f at h
    rw [if_pos hlt] at h
    injection h with h
    exact ⟨h.symm⟩
  clear h
  have HB := Aside0.mk (Below.refl w.heap.size w)
  have hw1 : (IntKind.i64.wrap ((l0.length : Int) + 1)) = (l0.length : Int) + 1 := (i64_w _).trans (by unfold wrap64; omega)
  have p1 : decide ((0:Int) ≤ (l0.length : Int) + 1) = true := decide_eq_true (by omega)
  have HLT := Aside0.mk hlt
  clear hlt
  go_enter Try.func26, Try.ntmps26
  go_wp2_with (first | ((with_reducible refine gate_dst (N := 7) rfl ?_); refine Kd.R_make (Kd.int .i64) _ 3 rfl (N := 7) rfl 24 _ _ rfl ((l0.length : Int) + 1) rfl rfl Try.underlying24 (.int .i64 0) 8 info3 rfl (by decide) (by omega) 0 (ok := fun _ => True) (okp := fun _ => True) rfl (fun _ hk => hk) trivial (by omega) (by have := HLT.out; omega) (Below.refl _ _) (Nat.le_refl _) ?_; intro v111 w5 ho6 hb hg_ hnew_; clear hg_ hnew_; have n0_ := Aside0.mk (Kd.R_lower ho6 (below_size HB.out)); have n1_ := Aside0.mk (below_step HB.out hb); clear HB; have HO112 := n0_; have HB := n1_; clear n0_ n1_; clear hb ho6) | ((with_reducible refine gate_builtin (b := .copy) (xs := #[.tmp 8, .tmp 9]) rfl ?_); refine Kd.R_copy (0 : Int) (w0 := w) w.heap.size rfl (.tmp 8) (.tmp 9) 24 24 3 rfl Try.underlying24 (by kernel_rfl) v111 (List.replicate ((l0.length : Int) + 1).toNat 0) l0 A0 l0.length c0 (fun _ => True) rfl rfl HO112.out (Kd.C_below HR0.out HB.out) HB.out (below_size HB.out) ?_; intro w6 ho7 hb7 hg7; clear hg7; rw [copy_fill l0 0] at ho7; have n0_ := Aside0.mk ho7; have n1_ := Aside0.mk hb7; clear HO112 HB ho7 hb7; have HO := n0_; have HB := n1_; clear n0_ n1_; obtain ⟨go, co, eo, gb, gl, cl, HG⟩ := Kd.R_form HO.out (by simp); (first | cases eo | (injection eo with ea_ en_ ec_; (first | subst ea_ | (injection ea_ with ea_; subst ea_)); subst ec_; clear en_)); have GB := Aside0.mk gb; clear gb gl HG; obtain ⟨hx, hf⟩ := Kd.R_celln 0 HO.out (l0.length : Int) (by omega) (by rw [List.length_append]; simp; omega); have HP := Kd.R_putg HO.out (l0.length : Int) (-99); have hls : (l0 ++ [(0 : Int)]).length = l0.length + 1 := (by simp); have hd1 : decide (l0.length < l0.length + 1) = true := decide_eq_true (by omega); rw [hls] at HP ⊢; simp only [Int.toNat_natCast] at hx hf HP) | ((with_reducible refine gate_store (t := 3) (p := 14) rfl ?_); refine store_event (t := 3) (p := 14) (v := ?vo_w18) (w1 := (w6.setCell ⟨go, l0.length, none⟩ (.int .i64 (-99)))) ?hg ?ho ?hn ?hr ?_; (case ho => rfl); (case hg => rfl); (case hn => rfl); (case hr => first | (go_simp; done) | (go_simp; rfl)); intro w18 hw; have n0_ := Aside0.mk (show Kd.R (Kd.int .i64) 3 w18 w.heap.size (fun _ => True) (.slice (some ⟨go, 0, none⟩) (l0.length + 1) co) ((l0 ++ [0]).set l0.length (-99)) from (by rw [hw]; exact HP.1)); have n1_ := Aside0.mk ((by rw [hw]; exact below_set (HB.out) GB.out : Below w.heap.size w w18)); clear HO HP; clear HB; have HO := n0_; have HB := n1_; clear n0_ n1_; clear hw; obtain ⟨i019, hi019, _, hsz19, _⟩ := info_parts info3; have hcut19 := cut_to (P := Try.prog) 24 3 .i64 Try.underlying24 hi019 (some ⟨go, 0, none⟩) (l0.length + 1) co (l0.length : Int) (by omega) (by omega) (Kd.R_reads' HO.out).2.1; have hr19 := Kd.R_take (m := l0.length) HO.out (by simp); simp only [Int.toNat_natCast] at hcut19; clear hi019 hsz19 HO; have HO118 := Aside0.mk hr19; clear hr19))
  go_ret
  have h1 := HO118.out
  rw [show ((l0 ++ [(0 : Int)]).set l0.length (-99)).take l0.length = l0 from by rw [List.take_set_of_le (by omega), List.take_left]] at h1
  exact ⟨_, rfl, by rw [Hr.out]; exact h1, HB.out⟩
theorem squintlaw04_copied.small (k : Nat) {l0 : List Int} (h : l0.length < 17592186044416) : squintlaw04_copied.f k l0 = some l0 := if_pos h

/-! ### squintlaw04_ownRows: function 18 -/
def squintlaw04_ownRows.f (k : Nat) (l0 : List (S43)) : Option (List (S43)) := if l0.length < 3518437208883 then (if l0.all (fun x => decide (x.f1.length < 17592186044416)) = true then some l0 else none) else none
theorem squintlaw04_ownRows.mono : ∀ a0 k, LeO (squintlaw04_ownRows.f k a0) (squintlaw04_ownRows.f (k + 1) a0) := fun _ _ => LeO.refl _
set_option maxHeartbeats 8000000 in
set_option maxRecDepth 100000 in
theorem squintlaw04_ownRows.calls (k : Nat) (A0 : Option Addr) (c0 : Nat) (l0 : List (S43)) (r : List (S43)) (w : World) (hr0 : Kd.C k43 w A0 l0.length l0) (hc0 : l0.length ≤ c0) (h : squintlaw04_ownRows.f k l0 = some r) :
    Calls Try.prog 18 #[.slice A0 l0.length c0] w fun e w' => ∃ v0_ : Value, e = .returned (v0_) ∧ Kd.S k43 43 w' w.heap.size (fun _ => True) v0_ r ∧ Below w.heap.size w w' := by
  have HR0 := Aside0.mk hr0
  have HC0 := Aside0.mk hc0
  clear hr0 hc0
  have hu43 := Try.underlying43
  have hall : l0.length < 3518437208883 ∧ (∀ x ∈ l0, x.f1.length < 17592186044416) ∧ r = l0 := by
    unfold squintlaw04_ownRows.f at h
    split at h
    · split at h
      · rename_i h1 h2
        injection h with h
        exact ⟨h1, fun x hx => of_decide_eq_true (List.all_eq_true.1 h2 x hx), h.symm⟩
      · cases h
    · cases h
  clear h
  have HLT := Aside0.mk hall.1
  have HKD := Aside0.mk hall.2.1
  have Hr := Aside0.mk hall.2.2
  clear hall
  have HB := Aside0.mk (Below.refl w.heap.size w)
  have hw1 : (IntKind.i64.wrap ((l0.length : Int) + 1)) = (l0.length : Int) + 1 := (i64_w _).trans (by have := HLT.out; unfold wrap64; omega)
  have p1 : decide ((0:Int) ≤ (l0.length : Int) + 1) = true := decide_eq_true (by omega)
  go_enter Try.func18, Try.ntmps18
  go_wp2_with (first | ((with_reducible refine gate_dst (N := 8) rfl ?_); refine Kd.R_make (Kd.bare k43) _ 43 rfl (N := 8) rfl 36 _ _ rfl ((l0.length : Int) + 1) rfl rfl Try.underlying36 (.agg #[(.int .i64 0), (.slice none 0 0), (.bool false)]) 40 info43 rfl (by decide) (by omega) z43 (ok := fun _ => True) (okp := fun _ => True) (k43_mkM _ _ _ z43 (Kd.R_nil _ _ _ _ _)) (fun _ hk => hk) trivial (by omega) (by have := HLT.out; omega) (Below.refl _ _) (Nat.le_refl _) ?_; intro v111 w5 ho6 hb hg_ hnew_; clear hg_ hnew_; have n0_ := Aside0.mk (Kd.R_lower ho6 (below_size HB.out)); have n1_ := Aside0.mk (below_step HB.out hb); clear HB; have HO112 := n0_; have HB := n1_; clear n0_ n1_; clear hb ho6) | ((with_reducible refine gate_builtin (b := .copy) (xs := #[.tmp 9, .tmp 10]) rfl ?_); refine Kd.S_copy (d := k43) (w0 := w) (base := w.heap.size) rfl (.tmp 9) (.tmp 10) 36 36 43 rfl Try.underlying36 (by kernel_rfl) (by decide) v111 (List.replicate ((l0.length : Int) + 1).toNat z43) l0 A0 c0 rfl rfl HO112.out HR0.out HB.out HB.out (below_size HB.out) (by rw [List.length_replicate]; omega) ?_; intro w6 ho7 hb7 hg7; clear hg7; rw [ownAt_start] at ho7; have n0_ := Aside0.mk ho7; have n1_ := Aside0.mk hb7; clear HO112 HB ho7 hb7; have HO := n0_; have HB := n1_; clear n0_ n1_; obtain ⟨go, co, eo, gb, gl, cl, HG⟩ := Kd.S_form HO.out (by rw [ownAt_length]; omega); rw [ownAt_length] at eo; subst eo; have GB := Aside0.mk gb; clear gb gl HG))
  go_loopg [4] l0.length (fun kq v4 w' => ∃ j : Nat, Aside0 (j ≤ l0.length) ∧ Aside0 (kq = l0.length - j) ∧ v4 = .int .i64 (j : Int) ∧ Aside0 (Kd.S (Kd.alt k43 w) 43 w' w.heap.size (fun _ => True) (.slice (some ⟨go, 0, none⟩) (l0.length + 1) co) (ownAt l0 z43 j)) ∧ Aside0 (Below w.heap.size w w'))
  case atStart => exact ⟨0, ⟨Nat.zero_le _⟩, ⟨rfl⟩, rfl, HO, HB⟩
  case round =>
    clear HO HB
    obtain ⟨j, HJ, HQ, rfl, HO, HB⟩ := hrel
    have hj0 : decide ((0:Int) ≤ (j : Int)) = true := decide_eq_true (by omega)
    by_cases hjl : j < l0.length
    · have c1 : decide ((j : Int) < (l0.length : Int)) = true := decide_eq_true (by omega)
      have c2 : decide (j < l0.length) = true := decide_eq_true hjl
      have c3 : decide (j < l0.length + 1) = true := decide_eq_true (by omega)
      have c4 := eq_true hjl
      obtain ⟨ad, A1, c1_, e1, hx0, hx1, hx2, hl1, hi1⟩ := at_T43 HR0.out (j : Int) (by omega) (by omega)
      subst e1
      obtain ⟨x, hxj⟩ : ∃ x, l0[j]? = some x := ⟨_, List.getElem?_eq_getElem hjl⟩
      have hrd : rd_T43 l0 (j : Int) = x := by simp [rd_T43, hxj]
      rw [hrd] at hx0 hx1 hx2 hl1 hi1
      simp only [Int.toNat_natCast] at hx0 hx1 hx2
      replace hx0 := (HB.out.cell (World.block_lt_of_cell? w _ hx0)).trans hx0
      replace hx1 := (HB.out.cell (World.block_lt_of_cell? w _ hx1)).trans hx1
      replace hx2 := (HB.out.cell (World.block_lt_of_cell? w _ hx2)).trans hx2
      have HXJ := Aside0.mk hxj
      have HXM := Aside0.mk (List.mem_of_getElem? hxj)
      clear hxj
      have HI1 := Aside0.mk hi1
      have HL1 := Aside0.mk hl1
      have HJL := Aside0.mk hjl
      clear hi1 hl1 hrd
      have hwj : (IntKind.i64.wrap ((j : Int) + 1)) = (j : Int) + 1 := (i64_w _).trans (by have := HLT.out; unfold wrap64; omega)
      clear hjl
      have i1 : (0:Int) ≤ (j : Int) := by omega
      have i2 : (j : Int) < ((l0.length + 1 : Nat) : Int) := by have := HJL.out; omega
      have i1 := Aside0.mk i1
      have i2 := Aside0.mk i2
      go_wp2_with (first | ((with_reducible refine gate_callee (f := 26) rfl ?_); refine goesL_ (some 25) rfl rfl Try.func26 (by kernel_rfl) rfl #[.slice A1 (x.f1).length c1_] rfl (by (try simp only [List.map_toArray, List.map_cons, List.map_nil]); first | done | rfl) ?_; (with_reducible refine (squintlaw04_copied.calls 0 _ _ (x.f1) (x.f1) _ ?side1 ?side2 (squintlaw04_copied.small 0 (HKD.out _ HXM.out))).mono ?_); (case side1 => exact (Kd.C_below HI1.out HB.out)); (case side2 => exact HL1.out); rintro e w21 ⟨v128, rfl, ho0, hb⟩; refine ⟨_, rfl, ?_⟩; obtain ⟨A9, c9, hv9⟩ := Kd.R_slice ho0; have n0_ := Aside0.mk (Kd.S_elder' HO.out (Kd.R_base ho0) hb); have n1_ := Aside0.mk (Kd.R_lower ho0 (below_size HB.out)); have n2_ := Aside0.mk (below_step HB.out hb); clear HO HB ho0 hb; have HO := n0_; have HM := n1_; have HB := n2_; clear n0_ n1_ n2_; have hty : ∃ cells, w21.heap[go]? = some (.cells cells 43 (0, 0)) := Kd.S_typed HO.out go rfl; have HRV := Kd.R_mono (ok' := fun k_ => (fun _ => True) k_ ∧ k_ ≠ go) (Kd.R_apart' HM.out (Kd.S_typed HO.out) (by decide)) (fun k_ hk => ⟨trivial, fun e_ => hk.2 (by rw [e_]; rfl)⟩); have HX22 := (show Kd.S (Kd.alt k43 w) 43 w21 w.heap.size (fun k_ => ((fun _ => True)) k_ ∧ ¬ ((fun k_ => some k_ = (v128 : Value).ownBlock)) k_) (.slice (some ⟨go, 0, none⟩) (l0.length + 1) co) (ownAt l0 z43 j) from Kd.S_mono HO.out (fun k_ hk => ⟨trivial, fun e_ => hk.2 e_⟩)); obtain ⟨oki, ce, hcl, hM, hcc, hfr, hoki, hH⟩ := Kd.S_elem HX22 (z43, true) (j : Int) i1.out i2.out; rw [ownAt_get z43 (z43, true) HXJ.out] at hM; obtain ⟨A5, c5, rfl, _, _⟩ := k43_open (Kd.alt_came hM); have HP := Kd.S_seg hH i1.out i2.out (seg := [v128]) (j := 1) (show 2 ≤ 3 from by decide) (x' := (x, true)) (k43_mkM _ _ _ x (Kd.R_mono (Kd.R_tight rfl HRV) (fun _ h_ => Or.inr h_))) (fun _ hk => hk) (fun k_ hk_ => HRV.1 k_ hk_.symm); rw [ownAt_set z43 HXJ.out] at HP; have hx := hcc 1 _ rfl; have hf := hfr 1; (try simp only [show (Kd.alt k43 w).sz = 3 from rfl, Int.toNat_natCast] at hx hf HP); clear hcl hcc hfr hM hoki hH HX22 hty HRV; subst hv9) | ((with_reducible refine gate_store (t := 24) (p := 27) rfl ?_); refine store_event (t := 24) (p := 27) (v := ?vo_w23) (w1 := (w21.setCell ⟨go, j * 3 + 1, none⟩ (.slice A9 x.f1.length c9))) ?hg ?ho ?hn ?hr ?_; (case ho => rfl); (case hg => rfl); (case hn => rfl); (case hr => first | (go_simp; done) | (go_simp; rfl)); intro w23 hw; have n0_ := Aside0.mk (show Kd.S (Kd.alt k43 w) 43 w23 w.heap.size (fun _ => True) (.slice (some ⟨go, 0, none⟩) (l0.length + 1) co) (ownAt l0 z43 (j + 1)) from (by rw [hw]; exact HP.1)); have n1_ := Aside0.mk ((by rw [hw]; exact below_set (HB.out) GB.out : Below w.heap.size w w23)); clear HO HB HM HP; have HO := n0_; have HB := n1_; clear n0_ n1_; clear hw))
      go_roundg (l0.length - (j + 1))
      case measure => have := HQ.out; have := HJL.out; omega
      case rel => exact ⟨j + 1, ⟨by have := HJL.out; omega⟩, ⟨rfl⟩, by go_num, HO, HB⟩
    · have hje : j = l0.length := by have := HJ.out; omega
      subst hje
      have c1 : decide ((l0.length : Int) < (l0.length : Int)) = false := decide_eq_false (by omega)
      have c3 : decide (l0.length < l0.length + 1) = true := decide_eq_true (by omega)
      have c4 : (l0.length < l0.length + 1) = True := eq_true (by omega)
      have i1 : (0:Int) ≤ (l0.length : Int) := by omega
      have i2 : (l0.length : Int) < ((l0.length + 1 : Nat) : Int) := by omega
      have HX22 := (show Kd.S (Kd.alt k43 w) 43 wr w.heap.size (fun k_ => ((fun _ => True)) k_ ∧ ¬ ((fun _ => False)) k_) (.slice (some ⟨go, 0, none⟩) (l0.length + 1) co) (ownAt l0 z43 l0.length) from Kd.S_mono HO.out (fun k_ hk => ⟨trivial, fun e_ => e_⟩))
      obtain ⟨oki, ce, hcl, hM, hcc, hfr, hoki, hH⟩ := Kd.S_elem HX22 (z43, true) (l0.length : Int) i1 i2
      rw [ownAt_last l0 z43 (z43, true)] at hM
      obtain ⟨v1, rfl, hv1⟩ := k43_openM (show k43.M wr w.heap.size oki z43 ce from hM)
      have HP := Aside0.mk (Kd.S_seg hH i1 i2 (seg := [.int .i64 (-99)]) (j := 0) (show 1 ≤ 3 from by decide) (x' := ((⟨-99, [], false⟩ : S43), true)) (k43_mkM _ _ _ (⟨-99, [], false⟩ : S43) (Kd.R_mono hv1 (fun _ h_ => Or.inl h_))) (fun _ hk => hk) (fun k_ hk_ => hk_.elim))
      have hx := hcc 0 _ rfl
      have hf := hfr 0
      simp only [show (Kd.alt k43 w).sz = 3 from rfl, Int.toNat_natCast, Nat.add_zero] at hx hf HP
      clear hcl hcc hfr hM hoki hH HX22 hv1 i1 i2
      go_wp2_with (first | ((with_reducible refine gate_store (t := 3) (p := 32) rfl ?_); refine store_event (t := 3) (p := 32) (v := ?vo_w24) (w1 := (wr.setCell ⟨go, l0.length * 3, none⟩ (.int .i64 (-99)))) ?hg ?ho ?hn ?hr ?_; (case ho => rfl); (case hg => rfl); (case hn => rfl); (case hr => first | (go_simp; done) | (go_simp; rfl)); intro w23 hw; have n0_ := Aside0.mk (show Kd.S (Kd.alt k43 w) 43 w23 w.heap.size (fun _ => True) (.slice (some ⟨go, 0, none⟩) (l0.length + 1) co) ((ownAt l0 z43 l0.length).set l0.length ((⟨-99, [], false⟩ : S43), true)) from (by rw [hw]; exact HP.out.1)); have n1_ := Aside0.mk ((by rw [hw]; exact below_set (HB.out) GB.out : Below w.heap.size w w23)); clear HO HB HP; have HO := n0_; have HB := n1_; clear n0_ n1_; clear hw; obtain ⟨i019, hi019, _, hsz19, _⟩ := info_parts info43; have hcut19 := cut_to (P := Try.prog) 36 43 .i64 Try.underlying36 hi019 (some ⟨go, 0, none⟩) (l0.length + 1) co (l0.length : Int) (by omega) (by omega) (Kd.S_reads' HO.out).2.1; have hr19 := Kd.S_take (m := l0.length) HO.out (by rw [List.length_set, ownAt_length]; omega); simp only [Int.toNat_natCast] at hcut19; clear hi019 hsz19 HO; have HO2 := Aside0.mk hr19; clear hr19))
      go_ret
      have h1 := HO2.out
      rw [ownAt_end] at h1
      exact ⟨_, rfl, by rw [Hr.out]; exact Kd.alt_all h1, HB.out⟩

end Go.Proofs.Ytapagakfckjhdaa.PKindsSame
