-- written for this claim over a table of functions with stand-ins
import Derived.Test.YtapagakfckjhdaaPKindsWaysx0
import Derived.Test.YtapagakfckjhdaaPKindsWaysx1
import Derived.Test.YtapagakfckjhdaaPKindsWaysx2
namespace Go.Proofs.Ytapagakfckjhdaa.PKindsWays
open Go.RowKit Go.Proofs.YtapagakfckjhdaaW.PrintWords Go.Proofs.YtapagakfckjhdaaW.PrintLast Go.Proofs.YtapagakfckjhdaaW.PrintMore
attribute [local go_sem] max2_int min2_int max_two min_two max_three min_three max_four min_four   -- for this text's walks alone
set_option linter.unusedVariables false
set_option linter.unusedSimpArgs false

/-! ### squintlaw04_KindsWays: function 7 -/
mutual
def squintlaw04_KindsWays.j0 : Nat → List (S43) → Int → Int → List Int → Int → Bool → Option (Bool)
  | 0, _, _, _, _, _, _ => none
  | k + 1, x0, x1, x2, x3, x9, x26 => if x26 = true then ((squintlaw04_shown.f).bind fun t125 => (some t125)) else ((squintlaw04_shown.f).bind fun t126 => ((squintlaw04_among.f x1 x9).bind fun t127 => ((squintlaw04_among.f x2 x9).bind fun t128 => ((kinds_Valid.f k x0).bind fun t129 => (if t129 = true then ((kinds_Same.f k x0 t127 t128).bind fun t130 => (squintlaw04_KindsWays.l0 k x0 t127 t128 x3 t126 t130 0)) else (some t126))))))
def squintlaw04_KindsWays.l0 : Nat → List (S43) → Int → Int → List Int → Bool → Bool → Int → Option (Bool)
  | 0, _, _, _, _, _, _, _ => none
  | k + 1, x0, x1, x2, x3, x10, x11, x12 => if x12 ≤ (x3.length : Int) then (if 0 ≤ x1 then (if x1 < (x0.length : Int) then (if 0 ≤ x2 then (if x2 < (x0.length : Int) then (if ((rd_T43 x0 x1).f0) = ((rd_T43 x0 x2).f0) then (if (((rd_T43 x0 x1).f2) != ((rd_T43 x0 x2).f2)) = true then (squintlaw04_KindsWays.j2 k x0 x1 x2 x3 x10 x11 x12 true) else (squintlaw04_KindsWays.j2 k x0 x1 x2 x3 x10 x11 x12 ((((rd_T43 x0 x1).f1).length : Int) != (((rd_T43 x0 x2).f1).length : Int)))) else (squintlaw04_KindsWays.j2 k x0 x1 x2 x3 x10 x11 x12 true)) else (none)) else (none)) else (none)) else (none)) else (some x10)
def squintlaw04_KindsWays.j2 : Nat → List (S43) → Int → Int → List Int → Bool → Bool → Int → Bool → Option (Bool)
  | 0, _, _, _, _, _, _, _, _ => none
  | k + 1, x0, x1, x2, x3, x10, x11, x12, x87 => if x87 = true then (if x10 = true then (some (!x11)) else (some false)) else (if x12 = (x3.length : Int) then (some x10) else (if 0 ≤ x1 then (if x1 < (x0.length : Int) then (if (((rd_T43 x0 x1).f1).length : Int) = 0 then (some x10) else (if 0 ≤ x12 then (if x12 < (x3.length : Int) then ((squintlaw04_among.f (rd x3 x12) (((rd_T43 x0 x1).f1).length : Int)).bind fun t140 => (if 0 ≤ t140 then (if t140 < (((rd_T43 x0 x1).f1).length : Int) then (if 0 ≤ x2 then (if x2 < (x0.length : Int) then (if t140 < (((rd_T43 x0 x2).f1).length : Int) then (squintlaw04_KindsWays.l0 k x0 (rd ((rd_T43 x0 x1).f1) t140) (rd ((rd_T43 x0 x2).f1) t140) x3 x10 x11 (wrap64 (x12 + 1))) else (none)) else (none)) else (none)) else (none)) else (none))) else (none)) else (none))) else (none)) else (none)))
end
def squintlaw04_KindsWays.f (k : Nat) (l0 : List (S43)) (a1 : Int) (a2 : Int) (l3 : List Int) : Option (Bool) := if (l0.length : Int) = 0 then (squintlaw04_KindsWays.j0 k l0 a1 a2 l3 (l0.length : Int) true) else (if (l0.length : Int) > 300 then (squintlaw04_KindsWays.j0 k l0 a1 a2 l3 (l0.length : Int) true) else ((squintlaw04_ofRows.f k l0).bind fun t121 => ((squintlaw04_beyond.f k t121).bind fun t124 => (squintlaw04_KindsWays.j0 k l0 a1 a2 l3 (l0.length : Int) t124))))
theorem squintlaw04_KindsWays.mono_l : ∀ k, (∀ y0 y1 y2 y3 y4 y5, LeO (squintlaw04_KindsWays.j0 k y0 y1 y2 y3 y4 y5) (squintlaw04_KindsWays.j0 (k + 1) y0 y1 y2 y3 y4 y5)) ∧ (∀ y0 y1 y2 y3 y4 y5 y6, LeO (squintlaw04_KindsWays.l0 k y0 y1 y2 y3 y4 y5 y6) (squintlaw04_KindsWays.l0 (k + 1) y0 y1 y2 y3 y4 y5 y6)) ∧ (∀ y0 y1 y2 y3 y4 y5 y6 y7, LeO (squintlaw04_KindsWays.j2 k y0 y1 y2 y3 y4 y5 y6 y7) (squintlaw04_KindsWays.j2 (k + 1) y0 y1 y2 y3 y4 y5 y6 y7))
  | 0 => ⟨fun _ _ _ _ _ _ r h => by simp [squintlaw04_KindsWays.j0] at h, fun _ _ _ _ _ _ _ r h => by simp [squintlaw04_KindsWays.l0] at h, fun _ _ _ _ _ _ _ _ r h => by simp [squintlaw04_KindsWays.j2] at h⟩
  | k + 1 => by
    obtain ⟨ih0, ih1, ih2⟩ := squintlaw04_KindsWays.mono_l k
    refine ⟨?_, ?_, ?_⟩
    · intro y0 y1 y2 y3 y4 y5
      unfold squintlaw04_KindsWays.j0
      repeat' first
      | (with_reducible exact ih0 _ _ _ _ _ _)
      | (with_reducible exact ih1 _ _ _ _ _ _ _)
      | (with_reducible exact ih2 _ _ _ _ _ _ _ _)
      | (with_reducible exact kinds_Same.mono _ _ _ _)
      | (with_reducible exact kinds_Valid.mono _ _)
      | (with_reducible exact squintlaw04_beyond.mono _ _)
      | (with_reducible exact squintlaw04_ofRows.mono _ _)
      | (with_reducible exact LeO.refl _)
      | (with_reducible exact LeO.none _)
      | (with_reducible refine LeO.ite ?_ ?_)
      | (with_reducible refine LeO.bind ?_ (fun _ => ?_))
      | exact ih0 _ _ _ _ _ _
      | exact ih1 _ _ _ _ _ _ _
      | exact ih2 _ _ _ _ _ _ _ _
      | exact kinds_Same.mono _ _ _ _
      | exact kinds_Valid.mono _ _
      | exact squintlaw04_beyond.mono _ _
      | exact squintlaw04_ofRows.mono _ _
      | exact LeO.none _
      | refine LeO.ite ?_ ?_
      | refine LeO.bind ?_ (fun _ => ?_)
    · intro y0 y1 y2 y3 y4 y5 y6
      unfold squintlaw04_KindsWays.l0
      repeat' first
      | (with_reducible exact ih0 _ _ _ _ _ _)
      | (with_reducible exact ih1 _ _ _ _ _ _ _)
      | (with_reducible exact ih2 _ _ _ _ _ _ _ _)
      | (with_reducible exact kinds_Same.mono _ _ _ _)
      | (with_reducible exact kinds_Valid.mono _ _)
      | (with_reducible exact squintlaw04_beyond.mono _ _)
      | (with_reducible exact squintlaw04_ofRows.mono _ _)
      | (with_reducible exact LeO.refl _)
      | (with_reducible exact LeO.none _)
      | (with_reducible refine LeO.ite ?_ ?_)
      | (with_reducible refine LeO.bind ?_ (fun _ => ?_))
      | exact ih0 _ _ _ _ _ _
      | exact ih1 _ _ _ _ _ _ _
      | exact ih2 _ _ _ _ _ _ _ _
      | exact kinds_Same.mono _ _ _ _
      | exact kinds_Valid.mono _ _
      | exact squintlaw04_beyond.mono _ _
      | exact squintlaw04_ofRows.mono _ _
      | exact LeO.none _
      | refine LeO.ite ?_ ?_
      | refine LeO.bind ?_ (fun _ => ?_)
    · intro y0 y1 y2 y3 y4 y5 y6 y7
      unfold squintlaw04_KindsWays.j2
      repeat' first
      | (with_reducible exact ih0 _ _ _ _ _ _)
      | (with_reducible exact ih1 _ _ _ _ _ _ _)
      | (with_reducible exact ih2 _ _ _ _ _ _ _ _)
      | (with_reducible exact kinds_Same.mono _ _ _ _)
      | (with_reducible exact kinds_Valid.mono _ _)
      | (with_reducible exact squintlaw04_beyond.mono _ _)
      | (with_reducible exact squintlaw04_ofRows.mono _ _)
      | (with_reducible exact LeO.refl _)
      | (with_reducible exact LeO.none _)
      | (with_reducible refine LeO.ite ?_ ?_)
      | (with_reducible refine LeO.bind ?_ (fun _ => ?_))
      | exact ih0 _ _ _ _ _ _
      | exact ih1 _ _ _ _ _ _ _
      | exact ih2 _ _ _ _ _ _ _ _
      | exact kinds_Same.mono _ _ _ _
      | exact kinds_Valid.mono _ _
      | exact squintlaw04_beyond.mono _ _
      | exact squintlaw04_ofRows.mono _ _
      | exact LeO.none _
      | refine LeO.ite ?_ ?_
      | refine LeO.bind ?_ (fun _ => ?_)
theorem squintlaw04_KindsWays.mono : ∀ a0 a1 a2 a3 k, LeO (squintlaw04_KindsWays.f k a0 a1 a2 a3) (squintlaw04_KindsWays.f (k + 1) a0 a1 a2 a3) := by
  intro a0 a1 a2 a3 k
  obtain ⟨ih0, ih1, ih2⟩ := squintlaw04_KindsWays.mono_l k
  unfold squintlaw04_KindsWays.f
  repeat' first
      | (with_reducible exact ih0 _ _ _ _ _ _)
      | (with_reducible exact ih1 _ _ _ _ _ _ _)
      | (with_reducible exact ih2 _ _ _ _ _ _ _ _)
      | (with_reducible exact kinds_Same.mono _ _ _ _)
      | (with_reducible exact kinds_Valid.mono _ _)
      | (with_reducible exact squintlaw04_beyond.mono _ _)
      | (with_reducible exact squintlaw04_ofRows.mono _ _)
      | (with_reducible exact LeO.refl _)
      | (with_reducible exact LeO.none _)
      | (with_reducible refine LeO.ite ?_ ?_)
      | (with_reducible refine LeO.bind ?_ (fun _ => ?_))
      | exact ih0 _ _ _ _ _ _
      | exact ih1 _ _ _ _ _ _ _
      | exact ih2 _ _ _ _ _ _ _ _
      | exact kinds_Same.mono _ _ _ _
      | exact kinds_Valid.mono _ _
      | exact squintlaw04_beyond.mono _ _
      | exact squintlaw04_ofRows.mono _ _
      | exact LeO.none _
      | refine LeO.ite ?_ ?_
      | refine LeO.bind ?_ (fun _ => ?_)
set_option maxHeartbeats 8000000 in
set_option maxRecDepth 100000 in
theorem squintlaw04_KindsWays.calls (k : Nat) (A0 : Option Addr) (c0 : Nat) (l0 : List (S43)) (a1 : Int) (a2 : Int) (A3 : Option Addr) (c3 : Nat) (l3 : List Int) (r : Bool) (w : World) (hr0 : Kd.C k43 w A0 l0.length l0) (hc0 : l0.length ≤ c0) (hr3 : Kd.C (Kd.int .i64) w A3 l3.length l3) (hc3 : l3.length ≤ c3) (h : squintlaw04_KindsWays.f k l0 a1 a2 l3 = some r) :
    Calls Try.prog 7 #[.slice A0 l0.length c0, .int .i64 a1, .int .i64 a2, .slice A3 l3.length c3] w fun e w' => e = .returned (.bool r) ∧ Below w.heap.size w w' := by
  have HR0 := Aside0.mk hr0
  have HC0 := Aside0.mk hc0
  clear hr0 hc0
  have HR3 := Aside0.mk hr3
  have HC3 := Aside0.mk hc3
  clear hr3 hc3
  have HB := Aside0.mk (Below.refl w.heap.size w)
  have H : (if (l0.length : Int) = 0 then (squintlaw04_KindsWays.j0 k l0 a1 a2 l3 (l0.length : Int) true) else (if (l0.length : Int) > 300 then (squintlaw04_KindsWays.j0 k l0 a1 a2 l3 (l0.length : Int) true) else ((squintlaw04_ofRows.f k l0).bind fun t121 => ((squintlaw04_beyond.f k t121).bind fun t124 => (squintlaw04_KindsWays.j0 k l0 a1 a2 l3 (l0.length : Int) t124))))) = some r := h
  clear h
  have HC5 := Aside0.mk H
  clear H
  go_enter Try.func7, Try.ntmps7
  go_upto_region 2 with (fail)
  repeat (go_quiet (fail); go_upto_region 2 with (fail))
  go_cut [26] (fun v26 wc => ∃ (kq : Nat) (x26_4 : Bool), v26 = .bool x26_4 ∧ Aside0 (squintlaw04_KindsWays.j0 kq l0 a1 a2 l3 (l0.length : Int) x26_4 = some r) ∧ Aside0 (kq ≤ k) ∧ Aside0 (Below w.heap.size w wc))
  case first =>
    have H := HC5.out
    clear HC5
    by_cases c6 : (l0.length : Int) = 0
    · rw [if_pos c6] at H
      have c6b0 : ((l0.length : Int) == 0) = true := beq_iff_eq.mpr c6
      have c6b1 : ((l0.length : Int) != 0) = false := bne_eq_false_iff_eq.mpr c6
      clear c6
      (first | rw [c6b0] | (simp only [i64_w, i32_w]; rw [c6b0]) | skip)
      have H' := Aside0.mk H
      clear H
      go_wp2
      repeat (go_quiet (fail); try go_wp2)
      go_meet
      case rel => exact ⟨_, (true), (by first | rfl | (simp; done) | (simp [*]; done)), H', ⟨by first | omega | exact Nat.le_refl _⟩, ⟨by repeat (first | (with_reducible first | exact HB.out | apply below_alloc | apply pw_below_drewN | apply below_drew1) | exact HB.out)⟩⟩
    · rw [if_neg c6] at H
      have c6b0 : ((l0.length : Int) == 0) = false := beq_eq_false_iff_ne.mpr c6
      have c6b1 : ((l0.length : Int) != 0) = true := bne_iff_ne.mpr c6
      have c6b2 : ¬ (l0 = []) := fun h_ => c6 (by rw [h_]; rfl)
      (first | rw [c6b0] | (simp only [i64_w, i32_w]; rw [c6b0]) | skip)
      by_cases c7 : (l0.length : Int) > 300
      · rw [if_pos c7] at H
        have c7b0 : decide (300 < (l0.length : Int)) = true := decide_eq_true c7
        have c7b1 : decide (300 < l0.length) = true := decide_eq_true (by omega)
        clear c7
        have H' := Aside0.mk H
        clear H
        go_wp2
        repeat (go_quiet (fail); try go_wp2)
        go_meet
        case rel => exact ⟨_, (true), (by first | rfl | (simp; done) | (simp [*]; done)), H', ⟨by first | omega | exact Nat.le_refl _⟩, ⟨by repeat (first | (with_reducible first | exact HB.out | apply below_alloc | apply pw_below_drewN | apply below_drew1) | exact HB.out)⟩⟩
      · rw [if_neg c7] at H
        have c7b0 : decide (300 < (l0.length : Int)) = false := decide_eq_false c7
        have c7b1 : decide (300 < l0.length) = false := decide_eq_false (by omega)
        clear c7
        replace H := Option.bind_eq_some_iff.mp H
        obtain ⟨t121, A80, H⟩ := H
        replace H : ((squintlaw04_beyond.f k t121).bind fun t124 => (squintlaw04_KindsWays.j0 k l0 a1 a2 l3 (l0.length : Int) t124)) = some r := H
        have A8 := Aside0.mk A80
        clear A80
        replace H := Option.bind_eq_some_iff.mp H
        obtain ⟨t124, A90, H⟩ := H
        replace H : (squintlaw04_KindsWays.j0 k l0 a1 a2 l3 (l0.length : Int) t124) = some r := H
        have A9 := Aside0.mk A90
        clear A90
        have H' := Aside0.mk H
        clear H
        go_wp2_with (first | (go_at_call 17; (with_reducible refine (squintlaw04_ofRows.calls k _ _ l0 t121 _ ?side1 ?side2 A8.out).mono ?_); (case side1 => repeat (first | exact (Kd.C_below HR0.out HB.out) | (with_reducible refine Kd.C_alloc ?_ _) | (with_reducible refine Kd.C_drewN ?_ _) | (with_reducible refine Kd.C_drew ?_))); (case side2 => exact HC0.out); rintro e w10 ⟨v122, rfl, ho0, hb⟩; have n0_ := Aside0.mk (Kd.R_lower ho0 (below_size (by repeat (first | (with_reducible first | exact HB.out | apply below_alloc | apply pw_below_drewN | apply below_drew1) | exact HB.out)))); have n1_ := Aside0.mk (below_step (by repeat (first | (with_reducible first | exact HB.out | apply below_alloc | apply pw_below_drewN | apply below_drew1) | exact HB.out)) hb); clear HB; have HO123 := n0_; have HB := n1_; clear n0_ n1_; (try clear hb); (try clear hb2); (try clear hk); (try clear hi); (try clear ho0); obtain ⟨Ao11, co11, eo11⟩ := Kd.R_slice HO123.out; subst eo11) | (go_at_call 9; (with_reducible refine (squintlaw04_beyond.calls k _ _ t121 t124 _ ?side1 ?side2 A9.out).mono ?_); (case side1 => repeat (first | exact (Kd.R_reads' HO123.out).2.2 | (with_reducible refine Kd.C_alloc ?_ _) | (with_reducible refine Kd.C_drewN ?_ _) | (with_reducible refine Kd.C_drew ?_))); (case side2 => exact (Kd.R_reads' HO123.out).2.1); rintro e w' ⟨rfl, ⟨nd, rfl⟩⟩; (try first | exact ⟨rfl, _, World.drewN_drewN _ _ _⟩ | exact ⟨rfl, _, Eq.trans (World.drewN_drewN _ _ _) (congrArg (World.drewN _) (Nat.add_assoc _ _ _))⟩)))
        repeat (go_quiet (first | (go_at_call 17; (with_reducible refine (squintlaw04_ofRows.calls k _ _ l0 t121 _ ?side1 ?side2 A8.out).mono ?_); (case side1 => repeat (first | exact (Kd.C_below HR0.out HB.out) | (with_reducible refine Kd.C_alloc ?_ _) | (with_reducible refine Kd.C_drewN ?_ _) | (with_reducible refine Kd.C_drew ?_))); (case side2 => exact HC0.out); rintro e w10 ⟨v122, rfl, ho0, hb⟩; have n0_ := Aside0.mk (Kd.R_lower ho0 (below_size (by repeat (first | (with_reducible first | exact HB.out | apply below_alloc | apply pw_below_drewN | apply below_drew1) | exact HB.out)))); have n1_ := Aside0.mk (below_step (by repeat (first | (with_reducible first | exact HB.out | apply below_alloc | apply pw_below_drewN | apply below_drew1) | exact HB.out)) hb); clear HB; have HO123 := n0_; have HB := n1_; clear n0_ n1_; (try clear hb); (try clear hb2); (try clear hk); (try clear hi); (try clear ho0); obtain ⟨Ao11, co11, eo11⟩ := Kd.R_slice HO123.out; subst eo11) | (go_at_call 9; (with_reducible refine (squintlaw04_beyond.calls k _ _ t121 t124 _ ?side1 ?side2 A9.out).mono ?_); (case side1 => repeat (first | exact (Kd.R_reads' HO123.out).2.2 | (with_reducible refine Kd.C_alloc ?_ _) | (with_reducible refine Kd.C_drewN ?_ _) | (with_reducible refine Kd.C_drew ?_))); (case side2 => exact (Kd.R_reads' HO123.out).2.1); rintro e w' ⟨rfl, ⟨nd, rfl⟩⟩; (try first | exact ⟨rfl, _, World.drewN_drewN _ _ _⟩ | exact ⟨rfl, _, Eq.trans (World.drewN_drewN _ _ _) (congrArg (World.drewN _) (Nat.add_assoc _ _ _))⟩))); try go_wp2_with (first | (go_at_call 17; (with_reducible refine (squintlaw04_ofRows.calls k _ _ l0 t121 _ ?side1 ?side2 A8.out).mono ?_); (case side1 => repeat (first | exact (Kd.C_below HR0.out HB.out) | (with_reducible refine Kd.C_alloc ?_ _) | (with_reducible refine Kd.C_drewN ?_ _) | (with_reducible refine Kd.C_drew ?_))); (case side2 => exact HC0.out); rintro e w10 ⟨v122, rfl, ho0, hb⟩; have n0_ := Aside0.mk (Kd.R_lower ho0 (below_size (by repeat (first | (with_reducible first | exact HB.out | apply below_alloc | apply pw_below_drewN | apply below_drew1) | exact HB.out)))); have n1_ := Aside0.mk (below_step (by repeat (first | (with_reducible first | exact HB.out | apply below_alloc | apply pw_below_drewN | apply below_drew1) | exact HB.out)) hb); clear HB; have HO123 := n0_; have HB := n1_; clear n0_ n1_; (try clear hb); (try clear hb2); (try clear hk); (try clear hi); (try clear ho0); obtain ⟨Ao11, co11, eo11⟩ := Kd.R_slice HO123.out; subst eo11) | (go_at_call 9; (with_reducible refine (squintlaw04_beyond.calls k _ _ t121 t124 _ ?side1 ?side2 A9.out).mono ?_); (case side1 => repeat (first | exact (Kd.R_reads' HO123.out).2.2 | (with_reducible refine Kd.C_alloc ?_ _) | (with_reducible refine Kd.C_drewN ?_ _) | (with_reducible refine Kd.C_drew ?_))); (case side2 => exact (Kd.R_reads' HO123.out).2.1); rintro e w' ⟨rfl, ⟨nd, rfl⟩⟩; (try first | exact ⟨rfl, _, World.drewN_drewN _ _ _⟩ | exact ⟨rfl, _, Eq.trans (World.drewN_drewN _ _ _) (congrArg (World.drewN _) (Nat.add_assoc _ _ _))⟩))))
        go_meet
        case rel => exact ⟨_, (t124), (by first | rfl | (simp; done) | (simp [*]; done)), H', ⟨by first | omega | exact Nat.le_refl _⟩, ⟨by repeat (first | (with_reducible first | exact HB.out | apply below_alloc | apply pw_below_drewN | apply below_drew1) | exact HB.out)⟩⟩
  case rest =>
    clear HC5
    try clear p2
    try clear c3
    try clear c6
    try clear c6b0
    try clear c6b1
    try clear c6b2
    try clear c7
    try clear c7b0
    try clear c7b1
    obtain ⟨kq, x26_4, rfl, HA, HJ4, HB⟩ := hcut
    cases kq with
    | zero => exact absurd HA.out (by simp [squintlaw04_KindsWays.j0])
    | succ kj4 =>
      have H := HA.out
      clear HA
      simp only [squintlaw04_KindsWays.j0] at H
      by_cases c12 : x26_4 = true
      · subst c12
        have H1 : ((squintlaw04_shown.f).bind fun t125 => (some t125)) = some r := by rw [if_pos rfl] at H; exact H
        clear H
        have H := H1
        clear H1
        replace H := Option.bind_eq_some_iff.mp H
        obtain ⟨t125, A130, H⟩ := H
        replace H : (some t125) = some r := H
        have A13 := Aside0.mk A130
        clear A130
        obtain rfl := Option.some.inj H
        go_wp2_with (first | (go_at_call 11; (with_reducible refine (squintlaw04_shown.calls  t125 _ A13.out).mono ?_); rintro e w14 ⟨rfl, hb⟩; have n0_ := Aside0.mk (below_step (by repeat (first | (with_reducible first | exact HB.out | apply below_alloc | apply pw_below_drewN | apply below_drew1) | exact HB.out)) hb); clear HB; have HB := n0_; clear n0_; (try clear hb); (try clear hb2); (try clear hk); (try clear hi)))
        repeat (go_quiet (first | (go_at_call 11; (with_reducible refine (squintlaw04_shown.calls  t125 _ A13.out).mono ?_); rintro e w14 ⟨rfl, hb⟩; have n0_ := Aside0.mk (below_step (by repeat (first | (with_reducible first | exact HB.out | apply below_alloc | apply pw_below_drewN | apply below_drew1) | exact HB.out)) hb); clear HB; have HB := n0_; clear n0_; (try clear hb); (try clear hb2); (try clear hk); (try clear hi))); try go_wp2_with (first | (go_at_call 11; (with_reducible refine (squintlaw04_shown.calls  t125 _ A13.out).mono ?_); rintro e w14 ⟨rfl, hb⟩; have n0_ := Aside0.mk (below_step (by repeat (first | (with_reducible first | exact HB.out | apply below_alloc | apply pw_below_drewN | apply below_drew1) | exact HB.out)) hb); clear HB; have HB := n0_; clear n0_; (try clear hb); (try clear hb2); (try clear hk); (try clear hi))))
        go_ret
        exact ⟨by first | rfl | (simp [errW_none, errW_some] <;> rfl) | (simp [*, errW_none, errW_some] <;> rfl), by repeat (first | (with_reducible first | exact HB.out | apply below_alloc | apply pw_below_drewN | apply below_drew1) | exact HB.out)⟩
      · replace c12 := Bool.eq_false_iff.mpr c12
        subst c12
        have H1 : ((squintlaw04_shown.f).bind fun t126 => ((squintlaw04_among.f a1 (l0.length : Int)).bind fun t127 => ((squintlaw04_among.f a2 (l0.length : Int)).bind fun t128 => ((kinds_Valid.f kj4 l0).bind fun t129 => (if t129 = true then ((kinds_Same.f kj4 l0 t127 t128).bind fun t130 => (squintlaw04_KindsWays.l0 kj4 l0 t127 t128 l3 t126 t130 0)) else (some t126)))))) = some r := by rw [if_neg (show ¬ (false = true) by decide)] at H; exact H
        clear H
        have H := H1
        clear H1
        replace H := Option.bind_eq_some_iff.mp H
        obtain ⟨t126, A150, H⟩ := H
        replace H : ((squintlaw04_among.f a1 (l0.length : Int)).bind fun t127 => ((squintlaw04_among.f a2 (l0.length : Int)).bind fun t128 => ((kinds_Valid.f kj4 l0).bind fun t129 => (if t129 = true then ((kinds_Same.f kj4 l0 t127 t128).bind fun t130 => (squintlaw04_KindsWays.l0 kj4 l0 t127 t128 l3 t126 t130 0)) else (some t126))))) = some r := H
        have A15 := Aside0.mk A150
        clear A150
        replace H := Option.bind_eq_some_iff.mp H
        obtain ⟨t127, A160, H⟩ := H
        replace H : ((squintlaw04_among.f a2 (l0.length : Int)).bind fun t128 => ((kinds_Valid.f kj4 l0).bind fun t129 => (if t129 = true then ((kinds_Same.f kj4 l0 t127 t128).bind fun t130 => (squintlaw04_KindsWays.l0 kj4 l0 t127 t128 l3 t126 t130 0)) else (some t126)))) = some r := H
        have A16 := Aside0.mk A160
        clear A160
        replace H := Option.bind_eq_some_iff.mp H
        obtain ⟨t128, A170, H⟩ := H
        replace H : ((kinds_Valid.f kj4 l0).bind fun t129 => (if t129 = true then ((kinds_Same.f kj4 l0 t127 t128).bind fun t130 => (squintlaw04_KindsWays.l0 kj4 l0 t127 t128 l3 t126 t130 0)) else (some t126))) = some r := H
        have A17 := Aside0.mk A170
        clear A170
        replace H := Option.bind_eq_some_iff.mp H
        obtain ⟨t129, A180, H⟩ := H
        replace H : (if t129 = true then ((kinds_Same.f kj4 l0 t127 t128).bind fun t130 => (squintlaw04_KindsWays.l0 kj4 l0 t127 t128 l3 t126 t130 0)) else (some t126)) = some r := H
        have A18 := Aside0.mk A180
        clear A180
        by_cases c19 : t129 = true
        · subst c19
          have H1 : ((kinds_Same.f kj4 l0 t127 t128).bind fun t130 => (squintlaw04_KindsWays.l0 kj4 l0 t127 t128 l3 t126 t130 0)) = some r := by rw [if_pos rfl] at H; exact H
          clear H
          have H := H1
          clear H1
          replace H := Option.bind_eq_some_iff.mp H
          obtain ⟨t130, A200, H⟩ := H
          replace H : (squintlaw04_KindsWays.l0 kj4 l0 t127 t128 l3 t126 t130 0) = some r := H
          have A20 := Aside0.mk A200
          clear A200
          have H' := Aside0.mk H
          clear H
          go_wp2_with (first | (go_at_call 11; (with_reducible refine (squintlaw04_shown.calls  t126 _ A15.out).mono ?_); rintro e w21 ⟨rfl, hb⟩; have n0_ := Aside0.mk (below_step (by repeat (first | (with_reducible first | exact HB.out | apply below_alloc | apply pw_below_drewN | apply below_drew1) | exact HB.out)) hb); clear HB; have HB := n0_; clear n0_; (try clear hb); (try clear hb2); (try clear hk); (try clear hi)) | (go_at_call 24; (with_reducible refine (squintlaw04_among.calls a1 (l0.length : Int) t127 _ A16.out).mono ?_); rintro e w' ⟨rfl, ⟨nd, rfl⟩⟩; (try first | exact ⟨rfl, _, World.drewN_drewN _ _ _⟩ | exact ⟨rfl, _, Eq.trans (World.drewN_drewN _ _ _) (congrArg (World.drewN _) (Nat.add_assoc _ _ _))⟩)) | (go_at_call 24; (with_reducible refine (squintlaw04_among.calls a2 (l0.length : Int) t128 _ A17.out).mono ?_); rintro e w' ⟨rfl, ⟨nd, rfl⟩⟩; (try first | exact ⟨rfl, _, World.drewN_drewN _ _ _⟩ | exact ⟨rfl, _, Eq.trans (World.drewN_drewN _ _ _) (congrArg (World.drewN _) (Nat.add_assoc _ _ _))⟩)) | (go_at_call 19; (with_reducible refine (kinds_Valid.calls kj4 _ _ l0 true _ ?side1 ?side2 A18.out).mono ?_); (case side1 => repeat (first | exact (Kd.C_below HR0.out (by repeat (first | (with_reducible first | exact HB.out | apply below_alloc | apply pw_below_drewN | apply below_drew1) | exact HB.out))) | (with_reducible refine Kd.C_alloc ?_ _) | (with_reducible refine Kd.C_drewN ?_ _) | (with_reducible refine Kd.C_drew ?_))); (case side2 => exact HC0.out); rintro e w22 ⟨rfl, hb⟩; have n0_ := Aside0.mk (below_step (by repeat (first | (with_reducible first | exact HB.out | apply below_alloc | apply pw_below_drewN | apply below_drew1) | exact HB.out)) hb); clear HB; have HB := n0_; clear n0_; (try clear hb); (try clear hb2); (try clear hk); (try clear hi)) | (go_at_call 22; (with_reducible refine (kinds_Same.calls kj4 _ _ l0 t127 t128 t130 _ ?side1 ?side2 A20.out).mono ?_); (case side1 => repeat (first | exact (Kd.C_below HR0.out HB.out) | (with_reducible refine Kd.C_alloc ?_ _) | (with_reducible refine Kd.C_drewN ?_ _) | (with_reducible refine Kd.C_drew ?_))); (case side2 => exact HC0.out); rintro e w23 ⟨rfl, hb⟩; have n0_ := Aside0.mk (below_step (by repeat (first | (with_reducible first | exact HB.out | apply below_alloc | apply pw_below_drewN | apply below_drew1) | exact HB.out)) hb); clear HB; have HB := n0_; clear n0_; (try clear hb); (try clear hb2); (try clear hk); (try clear hi)))
          repeat (go_quiet (first | (go_at_call 11; (with_reducible refine (squintlaw04_shown.calls  t126 _ A15.out).mono ?_); rintro e w21 ⟨rfl, hb⟩; have n0_ := Aside0.mk (below_step (by repeat (first | (with_reducible first | exact HB.out | apply below_alloc | apply pw_below_drewN | apply below_drew1) | exact HB.out)) hb); clear HB; have HB := n0_; clear n0_; (try clear hb); (try clear hb2); (try clear hk); (try clear hi)) | (go_at_call 24; (with_reducible refine (squintlaw04_among.calls a1 (l0.length : Int) t127 _ A16.out).mono ?_); rintro e w' ⟨rfl, ⟨nd, rfl⟩⟩; (try first | exact ⟨rfl, _, World.drewN_drewN _ _ _⟩ | exact ⟨rfl, _, Eq.trans (World.drewN_drewN _ _ _) (congrArg (World.drewN _) (Nat.add_assoc _ _ _))⟩)) | (go_at_call 24; (with_reducible refine (squintlaw04_among.calls a2 (l0.length : Int) t128 _ A17.out).mono ?_); rintro e w' ⟨rfl, ⟨nd, rfl⟩⟩; (try first | exact ⟨rfl, _, World.drewN_drewN _ _ _⟩ | exact ⟨rfl, _, Eq.trans (World.drewN_drewN _ _ _) (congrArg (World.drewN _) (Nat.add_assoc _ _ _))⟩)) | (go_at_call 19; (with_reducible refine (kinds_Valid.calls kj4 _ _ l0 true _ ?side1 ?side2 A18.out).mono ?_); (case side1 => repeat (first | exact (Kd.C_below HR0.out (by repeat (first | (with_reducible first | exact HB.out | apply below_alloc | apply pw_below_drewN | apply below_drew1) | exact HB.out))) | (with_reducible refine Kd.C_alloc ?_ _) | (with_reducible refine Kd.C_drewN ?_ _) | (with_reducible refine Kd.C_drew ?_))); (case side2 => exact HC0.out); rintro e w22 ⟨rfl, hb⟩; have n0_ := Aside0.mk (below_step (by repeat (first | (with_reducible first | exact HB.out | apply below_alloc | apply pw_below_drewN | apply below_drew1) | exact HB.out)) hb); clear HB; have HB := n0_; clear n0_; (try clear hb); (try clear hb2); (try clear hk); (try clear hi)) | (go_at_call 22; (with_reducible refine (kinds_Same.calls kj4 _ _ l0 t127 t128 t130 _ ?side1 ?side2 A20.out).mono ?_); (case side1 => repeat (first | exact (Kd.C_below HR0.out HB.out) | (with_reducible refine Kd.C_alloc ?_ _) | (with_reducible refine Kd.C_drewN ?_ _) | (with_reducible refine Kd.C_drew ?_))); (case side2 => exact HC0.out); rintro e w23 ⟨rfl, hb⟩; have n0_ := Aside0.mk (below_step (by repeat (first | (with_reducible first | exact HB.out | apply below_alloc | apply pw_below_drewN | apply below_drew1) | exact HB.out)) hb); clear HB; have HB := n0_; clear n0_; (try clear hb); (try clear hb2); (try clear hk); (try clear hi))); try go_wp2_with (first | (go_at_call 11; (with_reducible refine (squintlaw04_shown.calls  t126 _ A15.out).mono ?_); rintro e w21 ⟨rfl, hb⟩; have n0_ := Aside0.mk (below_step (by repeat (first | (with_reducible first | exact HB.out | apply below_alloc | apply pw_below_drewN | apply below_drew1) | exact HB.out)) hb); clear HB; have HB := n0_; clear n0_; (try clear hb); (try clear hb2); (try clear hk); (try clear hi)) | (go_at_call 24; (with_reducible refine (squintlaw04_among.calls a1 (l0.length : Int) t127 _ A16.out).mono ?_); rintro e w' ⟨rfl, ⟨nd, rfl⟩⟩; (try first | exact ⟨rfl, _, World.drewN_drewN _ _ _⟩ | exact ⟨rfl, _, Eq.trans (World.drewN_drewN _ _ _) (congrArg (World.drewN _) (Nat.add_assoc _ _ _))⟩)) | (go_at_call 24; (with_reducible refine (squintlaw04_among.calls a2 (l0.length : Int) t128 _ A17.out).mono ?_); rintro e w' ⟨rfl, ⟨nd, rfl⟩⟩; (try first | exact ⟨rfl, _, World.drewN_drewN _ _ _⟩ | exact ⟨rfl, _, Eq.trans (World.drewN_drewN _ _ _) (congrArg (World.drewN _) (Nat.add_assoc _ _ _))⟩)) | (go_at_call 19; (with_reducible refine (kinds_Valid.calls kj4 _ _ l0 true _ ?side1 ?side2 A18.out).mono ?_); (case side1 => repeat (first | exact (Kd.C_below HR0.out (by repeat (first | (with_reducible first | exact HB.out | apply below_alloc | apply pw_below_drewN | apply below_drew1) | exact HB.out))) | (with_reducible refine Kd.C_alloc ?_ _) | (with_reducible refine Kd.C_drewN ?_ _) | (with_reducible refine Kd.C_drew ?_))); (case side2 => exact HC0.out); rintro e w22 ⟨rfl, hb⟩; have n0_ := Aside0.mk (below_step (by repeat (first | (with_reducible first | exact HB.out | apply below_alloc | apply pw_below_drewN | apply below_drew1) | exact HB.out)) hb); clear HB; have HB := n0_; clear n0_; (try clear hb); (try clear hb2); (try clear hk); (try clear hi)) | (go_at_call 22; (with_reducible refine (kinds_Same.calls kj4 _ _ l0 t127 t128 t130 _ ?side1 ?side2 A20.out).mono ?_); (case side1 => repeat (first | exact (Kd.C_below HR0.out HB.out) | (with_reducible refine Kd.C_alloc ?_ _) | (with_reducible refine Kd.C_drewN ?_ _) | (with_reducible refine Kd.C_drew ?_))); (case side2 => exact HC0.out); rintro e w23 ⟨rfl, hb⟩; have n0_ := Aside0.mk (below_step (by repeat (first | (with_reducible first | exact HB.out | apply below_alloc | apply pw_below_drewN | apply below_drew1) | exact HB.out)) hb); clear HB; have HB := n0_; clear n0_; (try clear hb); (try clear hb2); (try clear hk); (try clear hi))))
          go_loopg [1, 2, 12] kj4 (fun kq v1 v2 v12 w' => ∃ (x1_2 : Int) (x2_2 : Int) (x12_2 : Int), v1 = .int .i64 x1_2 ∧ v2 = .int .i64 x2_2 ∧ v12 = .int .i64 x12_2 ∧ Aside0 (squintlaw04_KindsWays.l0 kq l0 x1_2 x2_2 l3 t126 t130 x12_2 = some r) ∧ Aside0 (kq ≤ kj4) ∧ Aside0 (Below w.heap.size w w'))
          case atStart => exact ⟨(t127), (t128), (0), (by first | rfl | (simp; done) | (simp [*]; done)), (by first | rfl | (simp; done) | (simp [*]; done)), (by first | rfl | (simp; done) | (simp [*]; done)), H', ⟨Nat.le_refl _⟩, ⟨by repeat (first | (with_reducible first | exact HB.out | apply below_alloc | apply pw_below_drewN | apply below_drew1) | exact HB.out)⟩⟩
          case round =>
            clear H'
            try clear c1
            try clear p2
            try clear c3
            try clear c6
            try clear c6b0
            try clear c6b1
            try clear c6b2
            try clear c7
            try clear c7b0
            try clear c7b1
            try clear c12
            try clear c19
            try clear p2
            obtain ⟨x1_2, x2_2, x12_2, rfl, rfl, rfl, HA, HK2, HB⟩ := hrel
            cases gk with
            | zero => exact absurd HA.out (by simp [squintlaw04_KindsWays.l0])
            | succ k2 =>
              have H := HA.out
              clear HA
              simp only [squintlaw04_KindsWays.l0] at H
              by_cases c24 : x12_2 ≤ (l3.length : Int)
              · rw [if_pos c24] at H
                have c24b0 : decide (x12_2 ≤ (l3.length : Int)) = true := decide_eq_true c24
                clear c24
                have HC25 := Aside0.mk H
                clear H
                go_upto_region 13 with (fail)
                repeat (go_quiet (fail); go_upto_region 13 with (fail))
                go_cut [87] (fun v87 wc => ∃ (kq : Nat) (x87_24 : Bool), v87 = .bool x87_24 ∧ Aside0 (squintlaw04_KindsWays.j2 kq l0 x1_2 x2_2 l3 t126 t130 x12_2 x87_24 = some r) ∧ Aside0 (kq ≤ k2) ∧ Aside0 (Below w.heap.size w wc))
                case first =>
                  have H := HC25.out
                  clear HC25
                  by_cases c26 : 0 ≤ x1_2
                  · rw [if_pos c26] at H
                    have c26b0 : decide (0 ≤ x1_2) = true := decide_eq_true c26
                    clear c26
                    (first | rw [c26b0] | (simp only [i64_w, i32_w]; rw [c26b0]) | skip)
                    by_cases c27 : x1_2 < (l0.length : Int)
                    · rw [if_pos c27] at H
                      have c27b0 : decide (x1_2 < (l0.length : Int)) = true := decide_eq_true c27
                      clear c27
                      by_cases c28 : 0 ≤ x2_2
                      · rw [if_pos c28] at H
                        have c28b0 : decide (0 ≤ x2_2) = true := decide_eq_true c28
                        clear c28
                        by_cases c29 : x2_2 < (l0.length : Int)
                        · rw [if_pos c29] at H
                          have c29b0 : decide (x2_2 < (l0.length : Int)) = true := decide_eq_true c29
                          clear c29
                          by_cases c30 : ((rd_T43 l0 x1_2).f0) = ((rd_T43 l0 x2_2).f0)
                          · rw [if_pos c30] at H
                            have c30b0 : (((rd_T43 l0 x1_2).f0) == ((rd_T43 l0 x2_2).f0)) = true := beq_iff_eq.mpr c30
                            have c30b1 : (((rd_T43 l0 x1_2).f0) != ((rd_T43 l0 x2_2).f0)) = false := bne_eq_false_iff_eq.mpr c30
                            clear c30
                            by_cases c31 : (((rd_T43 l0 x1_2).f2) != ((rd_T43 l0 x2_2).f2)) = true
                            · rw [if_pos c31] at H
                              have c31b0 : (((rd_T43 l0 x1_2).f2) != ((rd_T43 l0 x2_2).f2)) = true := c31
                              (try (have c31b1 : decide (((rd_T43 l0 x1_2).f2) = ((rd_T43 l0 x2_2).f2)) = false := by simpa using c31))
                              (try (have c31b2 : (((rd_T43 l0 x1_2).f2) == ((rd_T43 l0 x2_2).f2)) = false := by simpa using c31))
                              (try (have c31b3 : ¬ (((rd_T43 l0 x1_2).f2) = ((rd_T43 l0 x2_2).f2)) := by simpa using c31))
                              clear c31
                              have H' := Aside0.mk H
                              clear H
                              have p131 : 0 ≤ (x1_2 : Int) := of_decide_eq_true (by first | (with_reducible assumption) | assumption)
                              have q131 : x1_2 < (l0.length : Int) := of_decide_eq_true (by first | (with_reducible assumption) | assumption)
                              obtain ⟨ad131, A131_1, c131_1, e131, hx131_0, hx131_1, hx131_2, hl131_1, hi131_1⟩ := at_T43 HR0.out x1_2 p131 q131
                              cases e131
                              replace hx131_0 := (HB.out.cell (World.block_lt_of_cell? w _ hx131_0)).trans hx131_0
                              replace hx131_1 := (HB.out.cell (World.block_lt_of_cell? w _ hx131_1)).trans hx131_1
                              replace hx131_2 := (HB.out.cell (World.block_lt_of_cell? w _ hx131_2)).trans hx131_2
                              have HR131_1 := Aside0.mk hi131_1
                              have HC131_1 := Aside0.mk hl131_1
                              clear hi131_1 hl131_1
                              replace p131 := eq_true p131
                              replace q131 := eq_true q131
                              have p132 : 0 ≤ (x2_2 : Int) := of_decide_eq_true (by first | (with_reducible assumption) | assumption)
                              have q132 : x2_2 < (l0.length : Int) := of_decide_eq_true (by first | (with_reducible assumption) | assumption)
                              obtain ⟨ad132, A132_1, c132_1, e132, hx132_0, hx132_1, hx132_2, hl132_1, hi132_1⟩ := at_T43 HR0.out x2_2 p132 q132
                              obtain rfl : ad131 = ad132 := (by injection e132)
                              replace hx132_0 := (HB.out.cell (World.block_lt_of_cell? w _ hx132_0)).trans hx132_0
                              replace hx132_1 := (HB.out.cell (World.block_lt_of_cell? w _ hx132_1)).trans hx132_1
                              replace hx132_2 := (HB.out.cell (World.block_lt_of_cell? w _ hx132_2)).trans hx132_2
                              have HR132_1 := Aside0.mk hi132_1
                              have HC132_1 := Aside0.mk hl132_1
                              clear hi132_1 hl132_1
                              replace p132 := eq_true p132
                              replace q132 := eq_true q132
                              have p133 : 0 ≤ (x1_2 : Int) := of_decide_eq_true (by first | (with_reducible assumption) | assumption)
                              have q133 : x1_2 < (l0.length : Int) := of_decide_eq_true (by first | (with_reducible assumption) | assumption)
                              obtain ⟨ad133, A133_1, c133_1, e133, hx133_0, hx133_1, hx133_2, hl133_1, hi133_1⟩ := at_T43 HR0.out x1_2 p133 q133
                              obtain rfl : ad131 = ad133 := (by injection e133)
                              replace hx133_0 := (HB.out.cell (World.block_lt_of_cell? w _ hx133_0)).trans hx133_0
                              replace hx133_1 := (HB.out.cell (World.block_lt_of_cell? w _ hx133_1)).trans hx133_1
                              replace hx133_2 := (HB.out.cell (World.block_lt_of_cell? w _ hx133_2)).trans hx133_2
                              have HR133_1 := Aside0.mk hi133_1
                              have HC133_1 := Aside0.mk hl133_1
                              clear hi133_1 hl133_1
                              replace p133 := eq_true p133
                              replace q133 := eq_true q133
                              have ea_ := Option.some.inj (hx131_1.symm.trans hx133_1)
                              injection ea_ with ea_ en_ ec_
                              subst ea_
                              subst ec_
                              clear en_
                              have p134 : 0 ≤ (x2_2 : Int) := of_decide_eq_true (by first | (with_reducible assumption) | assumption)
                              have q134 : x2_2 < (l0.length : Int) := of_decide_eq_true (by first | (with_reducible assumption) | assumption)
                              obtain ⟨ad134, A134_1, c134_1, e134, hx134_0, hx134_1, hx134_2, hl134_1, hi134_1⟩ := at_T43 HR0.out x2_2 p134 q134
                              obtain rfl : ad131 = ad134 := (by injection e134)
                              replace hx134_0 := (HB.out.cell (World.block_lt_of_cell? w _ hx134_0)).trans hx134_0
                              replace hx134_1 := (HB.out.cell (World.block_lt_of_cell? w _ hx134_1)).trans hx134_1
                              replace hx134_2 := (HB.out.cell (World.block_lt_of_cell? w _ hx134_2)).trans hx134_2
                              have HR134_1 := Aside0.mk hi134_1
                              have HC134_1 := Aside0.mk hl134_1
                              clear hi134_1 hl134_1
                              replace p134 := eq_true p134
                              replace q134 := eq_true q134
                              have ea_ := Option.some.inj (hx132_1.symm.trans hx134_1)
                              injection ea_ with ea_ en_ ec_
                              subst ea_
                              subst ec_
                              clear en_
                              go_wp2
                              repeat (go_quiet (fail); try go_wp2)
                              go_meet
                              case rel => exact ⟨_, (true), (by first | rfl | (simp; done) | (simp [*]; done)), H', ⟨by have := HJ4.out; have := HK2.out; first | omega | exact Nat.le_refl _⟩, ⟨by repeat (first | (with_reducible first | exact HB.out | apply below_alloc | apply pw_below_drewN | apply below_drew1) | exact HB.out)⟩⟩
                            · rw [if_neg c31] at H
                              have c31b0 : (((rd_T43 l0 x1_2).f2) != ((rd_T43 l0 x2_2).f2)) = false := by simpa using c31
                              (try (have c31b1 : decide (((rd_T43 l0 x1_2).f2) = ((rd_T43 l0 x2_2).f2)) = true := by simpa using c31))
                              (try (have c31b2 : (((rd_T43 l0 x1_2).f2) == ((rd_T43 l0 x2_2).f2)) = true := by simpa using c31))
                              clear c31
                              have H' := Aside0.mk H
                              clear H
                              have p131 : 0 ≤ (x1_2 : Int) := of_decide_eq_true (by first | (with_reducible assumption) | assumption)
                              have q131 : x1_2 < (l0.length : Int) := of_decide_eq_true (by first | (with_reducible assumption) | assumption)
                              obtain ⟨ad131, A131_1, c131_1, e131, hx131_0, hx131_1, hx131_2, hl131_1, hi131_1⟩ := at_T43 HR0.out x1_2 p131 q131
                              cases e131
                              replace hx131_0 := (HB.out.cell (World.block_lt_of_cell? w _ hx131_0)).trans hx131_0
                              replace hx131_1 := (HB.out.cell (World.block_lt_of_cell? w _ hx131_1)).trans hx131_1
                              replace hx131_2 := (HB.out.cell (World.block_lt_of_cell? w _ hx131_2)).trans hx131_2
                              have HR131_1 := Aside0.mk hi131_1
                              have HC131_1 := Aside0.mk hl131_1
                              clear hi131_1 hl131_1
                              replace p131 := eq_true p131
                              replace q131 := eq_true q131
                              have p132 : 0 ≤ (x2_2 : Int) := of_decide_eq_true (by first | (with_reducible assumption) | assumption)
                              have q132 : x2_2 < (l0.length : Int) := of_decide_eq_true (by first | (with_reducible assumption) | assumption)
                              obtain ⟨ad132, A132_1, c132_1, e132, hx132_0, hx132_1, hx132_2, hl132_1, hi132_1⟩ := at_T43 HR0.out x2_2 p132 q132
                              obtain rfl : ad131 = ad132 := (by injection e132)
                              replace hx132_0 := (HB.out.cell (World.block_lt_of_cell? w _ hx132_0)).trans hx132_0
                              replace hx132_1 := (HB.out.cell (World.block_lt_of_cell? w _ hx132_1)).trans hx132_1
                              replace hx132_2 := (HB.out.cell (World.block_lt_of_cell? w _ hx132_2)).trans hx132_2
                              have HR132_1 := Aside0.mk hi132_1
                              have HC132_1 := Aside0.mk hl132_1
                              clear hi132_1 hl132_1
                              replace p132 := eq_true p132
                              replace q132 := eq_true q132
                              have p133 : 0 ≤ (x1_2 : Int) := of_decide_eq_true (by first | (with_reducible assumption) | assumption)
                              have q133 : x1_2 < (l0.length : Int) := of_decide_eq_true (by first | (with_reducible assumption) | assumption)
                              obtain ⟨ad133, A133_1, c133_1, e133, hx133_0, hx133_1, hx133_2, hl133_1, hi133_1⟩ := at_T43 HR0.out x1_2 p133 q133
                              obtain rfl : ad131 = ad133 := (by injection e133)
                              replace hx133_0 := (HB.out.cell (World.block_lt_of_cell? w _ hx133_0)).trans hx133_0
                              replace hx133_1 := (HB.out.cell (World.block_lt_of_cell? w _ hx133_1)).trans hx133_1
                              replace hx133_2 := (HB.out.cell (World.block_lt_of_cell? w _ hx133_2)).trans hx133_2
                              have HR133_1 := Aside0.mk hi133_1
                              have HC133_1 := Aside0.mk hl133_1
                              clear hi133_1 hl133_1
                              replace p133 := eq_true p133
                              replace q133 := eq_true q133
                              have ea_ := Option.some.inj (hx131_1.symm.trans hx133_1)
                              injection ea_ with ea_ en_ ec_
                              subst ea_
                              subst ec_
                              clear en_
                              have p134 : 0 ≤ (x2_2 : Int) := of_decide_eq_true (by first | (with_reducible assumption) | assumption)
                              have q134 : x2_2 < (l0.length : Int) := of_decide_eq_true (by first | (with_reducible assumption) | assumption)
                              obtain ⟨ad134, A134_1, c134_1, e134, hx134_0, hx134_1, hx134_2, hl134_1, hi134_1⟩ := at_T43 HR0.out x2_2 p134 q134
                              obtain rfl : ad131 = ad134 := (by injection e134)
                              replace hx134_0 := (HB.out.cell (World.block_lt_of_cell? w _ hx134_0)).trans hx134_0
                              replace hx134_1 := (HB.out.cell (World.block_lt_of_cell? w _ hx134_1)).trans hx134_1
                              replace hx134_2 := (HB.out.cell (World.block_lt_of_cell? w _ hx134_2)).trans hx134_2
                              have HR134_1 := Aside0.mk hi134_1
                              have HC134_1 := Aside0.mk hl134_1
                              clear hi134_1 hl134_1
                              replace p134 := eq_true p134
                              replace q134 := eq_true q134
                              have ea_ := Option.some.inj (hx132_1.symm.trans hx134_1)
                              injection ea_ with ea_ en_ ec_
                              subst ea_
                              subst ec_
                              clear en_
                              have p135 : 0 ≤ (x1_2 : Int) := of_decide_eq_true (by first | (with_reducible assumption) | assumption)
                              have q135 : x1_2 < (l0.length : Int) := of_decide_eq_true (by first | (with_reducible assumption) | assumption)
                              obtain ⟨ad135, A135_1, c135_1, e135, hx135_0, hx135_1, hx135_2, hl135_1, hi135_1⟩ := at_T43 HR0.out x1_2 p135 q135
                              obtain rfl : ad131 = ad135 := (by injection e135)
                              replace hx135_0 := (HB.out.cell (World.block_lt_of_cell? w _ hx135_0)).trans hx135_0
                              replace hx135_1 := (HB.out.cell (World.block_lt_of_cell? w _ hx135_1)).trans hx135_1
                              replace hx135_2 := (HB.out.cell (World.block_lt_of_cell? w _ hx135_2)).trans hx135_2
                              have HR135_1 := Aside0.mk hi135_1
                              have HC135_1 := Aside0.mk hl135_1
                              clear hi135_1 hl135_1
                              replace p135 := eq_true p135
                              replace q135 := eq_true q135
                              have ea_ := Option.some.inj (hx131_1.symm.trans hx135_1)
                              injection ea_ with ea_ en_ ec_
                              subst ea_
                              subst ec_
                              clear en_
                              have p136 : 0 ≤ (x2_2 : Int) := of_decide_eq_true (by first | (with_reducible assumption) | assumption)
                              have q136 : x2_2 < (l0.length : Int) := of_decide_eq_true (by first | (with_reducible assumption) | assumption)
                              obtain ⟨ad136, A136_1, c136_1, e136, hx136_0, hx136_1, hx136_2, hl136_1, hi136_1⟩ := at_T43 HR0.out x2_2 p136 q136
                              obtain rfl : ad131 = ad136 := (by injection e136)
                              replace hx136_0 := (HB.out.cell (World.block_lt_of_cell? w _ hx136_0)).trans hx136_0
                              replace hx136_1 := (HB.out.cell (World.block_lt_of_cell? w _ hx136_1)).trans hx136_1
                              replace hx136_2 := (HB.out.cell (World.block_lt_of_cell? w _ hx136_2)).trans hx136_2
                              have HR136_1 := Aside0.mk hi136_1
                              have HC136_1 := Aside0.mk hl136_1
                              clear hi136_1 hl136_1
                              replace p136 := eq_true p136
                              replace q136 := eq_true q136
                              have ea_ := Option.some.inj (hx132_1.symm.trans hx136_1)
                              injection ea_ with ea_ en_ ec_
                              subst ea_
                              subst ec_
                              clear en_
                              go_wp2
                              repeat (go_quiet (fail); try go_wp2)
                              go_meet
                              case rel => exact ⟨_, (((((rd_T43 l0 x1_2).f1).length : Int) != (((rd_T43 l0 x2_2).f1).length : Int))), (by first | rfl | (simp; done) | (simp [*]; done)), H', ⟨by have := HJ4.out; have := HK2.out; first | omega | exact Nat.le_refl _⟩, ⟨by repeat (first | (with_reducible first | exact HB.out | apply below_alloc | apply pw_below_drewN | apply below_drew1) | exact HB.out)⟩⟩
                          · rw [if_neg c30] at H
                            have c30b0 : (((rd_T43 l0 x1_2).f0) == ((rd_T43 l0 x2_2).f0)) = false := beq_eq_false_iff_ne.mpr c30
                            have c30b1 : (((rd_T43 l0 x1_2).f0) != ((rd_T43 l0 x2_2).f0)) = true := bne_iff_ne.mpr c30
                            have H' := Aside0.mk H
                            clear H
                            have p131 : 0 ≤ (x1_2 : Int) := of_decide_eq_true (by first | (with_reducible assumption) | assumption)
                            have q131 : x1_2 < (l0.length : Int) := of_decide_eq_true (by first | (with_reducible assumption) | assumption)
                            obtain ⟨ad131, A131_1, c131_1, e131, hx131_0, hx131_1, hx131_2, hl131_1, hi131_1⟩ := at_T43 HR0.out x1_2 p131 q131
                            cases e131
                            replace hx131_0 := (HB.out.cell (World.block_lt_of_cell? w _ hx131_0)).trans hx131_0
                            replace hx131_1 := (HB.out.cell (World.block_lt_of_cell? w _ hx131_1)).trans hx131_1
                            replace hx131_2 := (HB.out.cell (World.block_lt_of_cell? w _ hx131_2)).trans hx131_2
                            have HR131_1 := Aside0.mk hi131_1
                            have HC131_1 := Aside0.mk hl131_1
                            clear hi131_1 hl131_1
                            replace p131 := eq_true p131
                            replace q131 := eq_true q131
                            have p132 : 0 ≤ (x2_2 : Int) := of_decide_eq_true (by first | (with_reducible assumption) | assumption)
                            have q132 : x2_2 < (l0.length : Int) := of_decide_eq_true (by first | (with_reducible assumption) | assumption)
                            obtain ⟨ad132, A132_1, c132_1, e132, hx132_0, hx132_1, hx132_2, hl132_1, hi132_1⟩ := at_T43 HR0.out x2_2 p132 q132
                            obtain rfl : ad131 = ad132 := (by injection e132)
                            replace hx132_0 := (HB.out.cell (World.block_lt_of_cell? w _ hx132_0)).trans hx132_0
                            replace hx132_1 := (HB.out.cell (World.block_lt_of_cell? w _ hx132_1)).trans hx132_1
                            replace hx132_2 := (HB.out.cell (World.block_lt_of_cell? w _ hx132_2)).trans hx132_2
                            have HR132_1 := Aside0.mk hi132_1
                            have HC132_1 := Aside0.mk hl132_1
                            clear hi132_1 hl132_1
                            replace p132 := eq_true p132
                            replace q132 := eq_true q132
                            go_wp2
                            repeat (go_quiet (fail); try go_wp2)
                            go_meet
                            case rel => exact ⟨_, (true), (by first | rfl | (simp; done) | (simp [*]; done)), H', ⟨by have := HJ4.out; have := HK2.out; first | omega | exact Nat.le_refl _⟩, ⟨by repeat (first | (with_reducible first | exact HB.out | apply below_alloc | apply pw_below_drewN | apply below_drew1) | exact HB.out)⟩⟩
                        · rw [if_neg c29] at H
                          exact absurd H (by simp)
                      · rw [if_neg c28] at H
                        exact absurd H (by simp)
                    · rw [if_neg c27] at H
                      exact absurd H (by simp)
                  · rw [if_neg c26] at H
                    exact absurd H (by simp)
                case rest =>
                  clear HC25
                  try clear c1
                  try clear p1
                  try clear q1
                  try clear hx1
                  try clear c2
                  try clear p2
                  try clear c3
                  try clear c6
                  try clear c6b0
                  try clear c6b1
                  try clear c6b2
                  try clear c7
                  try clear c7b0
                  try clear c7b1
                  try clear c12
                  try clear c13
                  try clear p13
                  try clear q13
                  try clear hx13
                  try clear c19
                  try clear c24
                  try clear c24b0
                  try clear c26
                  try clear c26b0
                  try clear c27
                  try clear c27b0
                  try clear c28
                  try clear c28b0
                  try clear c29
                  try clear c29b0
                  try clear c30
                  try clear c30b0
                  try clear c30b1
                  try clear c31
                  try clear c31b0
                  try clear c31b1
                  try clear c31b2
                  try clear hx131_0
                  try clear hx131_1
                  try clear hx131_2
                  try clear hx132_0
                  try clear hx132_1
                  try clear hx132_2
                  try clear hx133_0
                  try clear hx133_1
                  try clear hx133_2
                  try clear hx134_0
                  try clear hx134_1
                  try clear hx134_2
                  try clear hx135_0
                  try clear hx135_1
                  try clear hx135_2
                  try clear hx136_0
                  try clear hx136_1
                  try clear hx136_2
                  try clear p131
                  try clear p132
                  try clear p133
                  try clear p134
                  try clear p135
                  try clear p136
                  try clear p2
                  try clear q131
                  try clear q132
                  try clear q133
                  try clear q134
                  try clear q135
                  try clear q136
                  obtain ⟨kq, x87_24, rfl, HA, HJ24, HB⟩ := hcut
                  cases kq with
                  | zero => exact absurd HA.out (by simp [squintlaw04_KindsWays.j2])
                  | succ kj24 =>
                    have H := HA.out
                    clear HA
                    simp only [squintlaw04_KindsWays.j2] at H
                    by_cases c32 : x87_24 = true
                    · subst c32
                      have H1 : (if t126 = true then (some (!t130)) else (some false)) = some r := by rw [if_pos rfl] at H; exact H
                      clear H
                      have H := H1
                      clear H1
                      by_cases c33 : t126 = true
                      · subst c33
                        have H1 : (some (!t130)) = some r := by rw [if_pos rfl] at H; exact H
                        clear H
                        have H := H1
                        clear H1
                        obtain rfl := Option.some.inj H
                        go_wp2
                        repeat (go_quiet (fail); try go_wp2)
                        go_ret
                        exact ⟨by first | rfl | (simp [errW_none, errW_some] <;> rfl) | (simp [*, errW_none, errW_some] <;> rfl), by repeat (first | (with_reducible first | exact HB.out | apply below_alloc | apply pw_below_drewN | apply below_drew1) | exact HB.out)⟩
                      · replace c33 := Bool.eq_false_iff.mpr c33
                        subst c33
                        have H1 : (some false) = some r := by rw [if_neg (show ¬ (false = true) by decide)] at H; exact H
                        clear H
                        have H := H1
                        clear H1
                        obtain rfl := Option.some.inj H
                        go_wp2
                        repeat (go_quiet (fail); try go_wp2)
                        go_ret
                        exact ⟨by first | rfl | (simp [errW_none, errW_some] <;> rfl) | (simp [*, errW_none, errW_some] <;> rfl), by repeat (first | (with_reducible first | exact HB.out | apply below_alloc | apply pw_below_drewN | apply below_drew1) | exact HB.out)⟩
                    · replace c32 := Bool.eq_false_iff.mpr c32
                      subst c32
                      have H1 : (if x12_2 = (l3.length : Int) then (some t126) else (if 0 ≤ x1_2 then (if x1_2 < (l0.length : Int) then (if (((rd_T43 l0 x1_2).f1).length : Int) = 0 then (some t126) else (if 0 ≤ x12_2 then (if x12_2 < (l3.length : Int) then ((squintlaw04_among.f (rd l3 x12_2) (((rd_T43 l0 x1_2).f1).length : Int)).bind fun t140 => (if 0 ≤ t140 then (if t140 < (((rd_T43 l0 x1_2).f1).length : Int) then (if 0 ≤ x2_2 then (if x2_2 < (l0.length : Int) then (if t140 < (((rd_T43 l0 x2_2).f1).length : Int) then (squintlaw04_KindsWays.l0 kj24 l0 (rd ((rd_T43 l0 x1_2).f1) t140) (rd ((rd_T43 l0 x2_2).f1) t140) l3 t126 t130 (wrap64 (x12_2 + 1))) else (none)) else (none)) else (none)) else (none)) else (none))) else (none)) else (none))) else (none)) else (none))) = some r := by rw [if_neg (show ¬ (false = true) by decide)] at H; exact H
                      clear H
                      have H := H1
                      clear H1
                      by_cases c34 : x12_2 = (l3.length : Int)
                      · rw [if_pos c34] at H
                        have c34b0 : (x12_2 == (l3.length : Int)) = true := beq_iff_eq.mpr c34
                        have c34b1 : (x12_2 != (l3.length : Int)) = false := bne_eq_false_iff_eq.mpr c34
                        clear c34
                        obtain rfl := Option.some.inj H
                        go_wp2
                        repeat (go_quiet (fail); try go_wp2)
                        go_ret
                        exact ⟨by first | rfl | (simp [errW_none, errW_some] <;> rfl) | (simp [*, errW_none, errW_some] <;> rfl), by repeat (first | (with_reducible first | exact HB.out | apply below_alloc | apply pw_below_drewN | apply below_drew1) | exact HB.out)⟩
                      · rw [if_neg c34] at H
                        have c34b0 : (x12_2 == (l3.length : Int)) = false := beq_eq_false_iff_ne.mpr c34
                        have c34b1 : (x12_2 != (l3.length : Int)) = true := bne_iff_ne.mpr c34
                        by_cases c35 : 0 ≤ x1_2
                        · rw [if_pos c35] at H
                          have c35b0 : decide (0 ≤ x1_2) = true := decide_eq_true c35
                          clear c35
                          by_cases c36 : x1_2 < (l0.length : Int)
                          · rw [if_pos c36] at H
                            have c36b0 : decide (x1_2 < (l0.length : Int)) = true := decide_eq_true c36
                            clear c36
                            by_cases c37 : (((rd_T43 l0 x1_2).f1).length : Int) = 0
                            · rw [if_pos c37] at H
                              have c37b0 : ((((rd_T43 l0 x1_2).f1).length : Int) == 0) = true := beq_iff_eq.mpr c37
                              have c37b1 : ((((rd_T43 l0 x1_2).f1).length : Int) != 0) = false := bne_eq_false_iff_eq.mpr c37
                              clear c37
                              obtain rfl := Option.some.inj H
                              have p137 : 0 ≤ (x1_2 : Int) := of_decide_eq_true (by first | (with_reducible assumption) | assumption)
                              have q137 : x1_2 < (l0.length : Int) := of_decide_eq_true (by first | (with_reducible assumption) | assumption)
                              obtain ⟨ad137, A137_1, c137_1, e137, hx137_0, hx137_1, hx137_2, hl137_1, hi137_1⟩ := at_T43 HR0.out x1_2 p137 q137
                              cases e137
                              replace hx137_0 := (HB.out.cell (World.block_lt_of_cell? w _ hx137_0)).trans hx137_0
                              replace hx137_1 := (HB.out.cell (World.block_lt_of_cell? w _ hx137_1)).trans hx137_1
                              replace hx137_2 := (HB.out.cell (World.block_lt_of_cell? w _ hx137_2)).trans hx137_2
                              have HR137_1 := Aside0.mk hi137_1
                              have HC137_1 := Aside0.mk hl137_1
                              clear hi137_1 hl137_1
                              replace p137 := eq_true p137
                              replace q137 := eq_true q137
                              go_wp2
                              repeat (go_quiet (fail); try go_wp2)
                              go_ret
                              exact ⟨by first | rfl | (simp [errW_none, errW_some] <;> rfl) | (simp [*, errW_none, errW_some] <;> rfl), by repeat (first | (with_reducible first | exact HB.out | apply below_alloc | apply pw_below_drewN | apply below_drew1) | exact HB.out)⟩
                            · rw [if_neg c37] at H
                              have c37b0 : ((((rd_T43 l0 x1_2).f1).length : Int) == 0) = false := beq_eq_false_iff_ne.mpr c37
                              have c37b1 : ((((rd_T43 l0 x1_2).f1).length : Int) != 0) = true := bne_iff_ne.mpr c37
                              have c37b2 : ¬ (((rd_T43 l0 x1_2).f1) = []) := fun h_ => c37 (by rw [h_]; rfl)
                              by_cases c38 : 0 ≤ x12_2
                              · rw [if_pos c38] at H
                                have c38b0 : decide (0 ≤ x12_2) = true := decide_eq_true c38
                                clear c38
                                by_cases c39 : x12_2 < (l3.length : Int)
                                · rw [if_pos c39] at H
                                  have c39b0 : decide (x12_2 < (l3.length : Int)) = true := decide_eq_true c39
                                  clear c39
                                  replace H := Option.bind_eq_some_iff.mp H
                                  obtain ⟨t140, A400, H⟩ := H
                                  replace H : (if 0 ≤ t140 then (if t140 < (((rd_T43 l0 x1_2).f1).length : Int) then (if 0 ≤ x2_2 then (if x2_2 < (l0.length : Int) then (if t140 < (((rd_T43 l0 x2_2).f1).length : Int) then (squintlaw04_KindsWays.l0 kj24 l0 (rd ((rd_T43 l0 x1_2).f1) t140) (rd ((rd_T43 l0 x2_2).f1) t140) l3 t126 t130 (wrap64 (x12_2 + 1))) else (none)) else (none)) else (none)) else (none)) else (none)) = some r := H
                                  have A40 := Aside0.mk A400
                                  clear A400
                                  by_cases c41 : 0 ≤ t140
                                  · rw [if_pos c41] at H
                                    have c41b0 : decide (0 ≤ t140) = true := decide_eq_true c41
                                    clear c41
                                    by_cases c42 : t140 < (((rd_T43 l0 x1_2).f1).length : Int)
                                    · rw [if_pos c42] at H
                                      have c42b0 : decide (t140 < (((rd_T43 l0 x1_2).f1).length : Int)) = true := decide_eq_true c42
                                      clear c42
                                      by_cases c43 : 0 ≤ x2_2
                                      · rw [if_pos c43] at H
                                        have c43b0 : decide (0 ≤ x2_2) = true := decide_eq_true c43
                                        clear c43
                                        by_cases c44 : x2_2 < (l0.length : Int)
                                        · rw [if_pos c44] at H
                                          have c44b0 : decide (x2_2 < (l0.length : Int)) = true := decide_eq_true c44
                                          clear c44
                                          by_cases c45 : t140 < (((rd_T43 l0 x2_2).f1).length : Int)
                                          · rw [if_pos c45] at H
                                            have c45b0 : decide (t140 < (((rd_T43 l0 x2_2).f1).length : Int)) = true := decide_eq_true c45
                                            clear c45
                                            have H' := Aside0.mk H
                                            clear H
                                            have p137 : 0 ≤ (x1_2 : Int) := of_decide_eq_true (by first | (with_reducible assumption) | assumption)
                                            have q137 : x1_2 < (l0.length : Int) := of_decide_eq_true (by first | (with_reducible assumption) | assumption)
                                            obtain ⟨ad137, A137_1, c137_1, e137, hx137_0, hx137_1, hx137_2, hl137_1, hi137_1⟩ := at_T43 HR0.out x1_2 p137 q137
                                            cases e137
                                            replace hx137_0 := (HB.out.cell (World.block_lt_of_cell? w _ hx137_0)).trans hx137_0
                                            replace hx137_1 := (HB.out.cell (World.block_lt_of_cell? w _ hx137_1)).trans hx137_1
                                            replace hx137_2 := (HB.out.cell (World.block_lt_of_cell? w _ hx137_2)).trans hx137_2
                                            have HR137_1 := Aside0.mk hi137_1
                                            have HC137_1 := Aside0.mk hl137_1
                                            clear hi137_1 hl137_1
                                            replace p137 := eq_true p137
                                            replace q137 := eq_true q137
                                            have p138 : 0 ≤ (x12_2 : Int) := of_decide_eq_true (by first | (with_reducible assumption) | assumption)
                                            have q138 : x12_2 < (l3.length : Int) := of_decide_eq_true (by first | (with_reducible assumption) | assumption)
                                            obtain ⟨ad138, e138, hx138_0⟩ := Kd.at_int HR3.out x12_2 p138 q138
                                            cases e138
                                            replace hx138_0 := (HB.out.cell (World.block_lt_of_cell? w _ hx138_0)).trans hx138_0
                                            replace p138 := eq_true p138
                                            replace q138 := eq_true q138
                                            have p139 : 0 ≤ (x1_2 : Int) := of_decide_eq_true (by first | (with_reducible assumption) | assumption)
                                            have q139 : x1_2 < (l0.length : Int) := of_decide_eq_true (by first | (with_reducible assumption) | assumption)
                                            obtain ⟨ad139, A139_1, c139_1, e139, hx139_0, hx139_1, hx139_2, hl139_1, hi139_1⟩ := at_T43 HR0.out x1_2 p139 q139
                                            obtain rfl : ad137 = ad139 := (by injection e139)
                                            replace hx139_0 := (HB.out.cell (World.block_lt_of_cell? w _ hx139_0)).trans hx139_0
                                            replace hx139_1 := (HB.out.cell (World.block_lt_of_cell? w _ hx139_1)).trans hx139_1
                                            replace hx139_2 := (HB.out.cell (World.block_lt_of_cell? w _ hx139_2)).trans hx139_2
                                            have HR139_1 := Aside0.mk hi139_1
                                            have HC139_1 := Aside0.mk hl139_1
                                            clear hi139_1 hl139_1
                                            replace p139 := eq_true p139
                                            replace q139 := eq_true q139
                                            have ea_ := Option.some.inj (hx137_1.symm.trans hx139_1)
                                            injection ea_ with ea_ en_ ec_
                                            subst ea_
                                            subst ec_
                                            clear en_
                                            go_wp2_with (first | (go_at_call 24; (with_reducible refine (squintlaw04_among.calls (rd l3 x12_2) (((rd_T43 l0 x1_2).f1).length : Int) t140 _ A40.out).mono ?_); rintro e w' ⟨rfl, ⟨nd, rfl⟩⟩; (try first | exact ⟨rfl, _, World.drewN_drewN _ _ _⟩ | exact ⟨rfl, _, Eq.trans (World.drewN_drewN _ _ _) (congrArg (World.drewN _) (Nat.add_assoc _ _ _))⟩); have p141 : 0 ≤ (x1_2 : Int) := of_decide_eq_true (by first | (with_reducible assumption) | assumption); have q141 : x1_2 < (l0.length : Int) := of_decide_eq_true (by first | (with_reducible assumption) | assumption); obtain ⟨ad141, A141_1, c141_1, e141, hx141_0, hx141_1, hx141_2, hl141_1, hi141_1⟩ := at_T43 HR0.out x1_2 p141 q141; obtain rfl : ad137 = ad141 := (by injection e141); replace hx141_0 := (HB.out.cell (World.block_lt_of_cell? w _ hx141_0)).trans hx141_0; replace hx141_1 := (HB.out.cell (World.block_lt_of_cell? w _ hx141_1)).trans hx141_1; replace hx141_2 := (HB.out.cell (World.block_lt_of_cell? w _ hx141_2)).trans hx141_2; have HR141_1 := Aside0.mk hi141_1; have HC141_1 := Aside0.mk hl141_1; clear hi141_1 hl141_1; replace p141 := eq_true p141; replace q141 := eq_true q141; have ea_ := Option.some.inj (hx137_1.symm.trans hx141_1); injection ea_ with ea_ en_ ec_; subst ea_; subst ec_; clear en_; have p142 : 0 ≤ (t140 : Int) := of_decide_eq_true (by first | (with_reducible assumption) | assumption); have q142 : t140 < (((rd_T43 l0 x1_2).f1).length : Int) := of_decide_eq_true (by first | (with_reducible assumption) | assumption); obtain ⟨ad142, e142, hx142_0⟩ := Kd.at_int HR141_1.out t140 p142 q142; cases e142; replace hx142_0 := (HB.out.cell (World.block_lt_of_cell? w _ hx142_0)).trans hx142_0; replace p142 := eq_true p142; replace q142 := eq_true q142; have p143 : 0 ≤ (x2_2 : Int) := of_decide_eq_true (by first | (with_reducible assumption) | assumption); have q143 : x2_2 < (l0.length : Int) := of_decide_eq_true (by first | (with_reducible assumption) | assumption); obtain ⟨ad143, A143_1, c143_1, e143, hx143_0, hx143_1, hx143_2, hl143_1, hi143_1⟩ := at_T43 HR0.out x2_2 p143 q143; obtain rfl : ad137 = ad143 := (by injection e143); replace hx143_0 := (HB.out.cell (World.block_lt_of_cell? w _ hx143_0)).trans hx143_0; replace hx143_1 := (HB.out.cell (World.block_lt_of_cell? w _ hx143_1)).trans hx143_1; replace hx143_2 := (HB.out.cell (World.block_lt_of_cell? w _ hx143_2)).trans hx143_2; have HR143_1 := Aside0.mk hi143_1; have HC143_1 := Aside0.mk hl143_1; clear hi143_1 hl143_1; replace p143 := eq_true p143; replace q143 := eq_true q143; have p144 : 0 ≤ (t140 : Int) := of_decide_eq_true (by first | (with_reducible assumption) | assumption); have q144 : t140 < (((rd_T43 l0 x2_2).f1).length : Int) := of_decide_eq_true (by first | (with_reducible assumption) | assumption); obtain ⟨ad144, e144, hx144_0⟩ := Kd.at_int HR143_1.out t140 p144 q144; cases e144; replace hx144_0 := (HB.out.cell (World.block_lt_of_cell? w _ hx144_0)).trans hx144_0; replace p144 := eq_true p144; replace q144 := eq_true q144))
                                            repeat (go_quiet (first | (go_at_call 24; (with_reducible refine (squintlaw04_among.calls (rd l3 x12_2) (((rd_T43 l0 x1_2).f1).length : Int) t140 _ A40.out).mono ?_); rintro e w' ⟨rfl, ⟨nd, rfl⟩⟩; (try first | exact ⟨rfl, _, World.drewN_drewN _ _ _⟩ | exact ⟨rfl, _, Eq.trans (World.drewN_drewN _ _ _) (congrArg (World.drewN _) (Nat.add_assoc _ _ _))⟩); have p141 : 0 ≤ (x1_2 : Int) := of_decide_eq_true (by first | (with_reducible assumption) | assumption); have q141 : x1_2 < (l0.length : Int) := of_decide_eq_true (by first | (with_reducible assumption) | assumption); obtain ⟨ad141, A141_1, c141_1, e141, hx141_0, hx141_1, hx141_2, hl141_1, hi141_1⟩ := at_T43 HR0.out x1_2 p141 q141; obtain rfl : ad137 = ad141 := (by injection e141); replace hx141_0 := (HB.out.cell (World.block_lt_of_cell? w _ hx141_0)).trans hx141_0; replace hx141_1 := (HB.out.cell (World.block_lt_of_cell? w _ hx141_1)).trans hx141_1; replace hx141_2 := (HB.out.cell (World.block_lt_of_cell? w _ hx141_2)).trans hx141_2; have HR141_1 := Aside0.mk hi141_1; have HC141_1 := Aside0.mk hl141_1; clear hi141_1 hl141_1; replace p141 := eq_true p141; replace q141 := eq_true q141; have ea_ := Option.some.inj (hx137_1.symm.trans hx141_1); injection ea_ with ea_ en_ ec_; subst ea_; subst ec_; clear en_; have p142 : 0 ≤ (t140 : Int) := of_decide_eq_true (by first | (with_reducible assumption) | assumption); have q142 : t140 < (((rd_T43 l0 x1_2).f1).length : Int) := of_decide_eq_true (by first | (with_reducible assumption) | assumption); obtain ⟨ad142, e142, hx142_0⟩ := Kd.at_int HR141_1.out t140 p142 q142; cases e142; replace hx142_0 := (HB.out.cell (World.block_lt_of_cell? w _ hx142_0)).trans hx142_0; replace p142 := eq_true p142; replace q142 := eq_true q142; have p143 : 0 ≤ (x2_2 : Int) := of_decide_eq_true (by first | (with_reducible assumption) | assumption); have q143 : x2_2 < (l0.length : Int) := of_decide_eq_true (by first | (with_reducible assumption) | assumption); obtain ⟨ad143, A143_1, c143_1, e143, hx143_0, hx143_1, hx143_2, hl143_1, hi143_1⟩ := at_T43 HR0.out x2_2 p143 q143; obtain rfl : ad137 = ad143 := (by injection e143); replace hx143_0 := (HB.out.cell (World.block_lt_of_cell? w _ hx143_0)).trans hx143_0; replace hx143_1 := (HB.out.cell (World.block_lt_of_cell? w _ hx143_1)).trans hx143_1; replace hx143_2 := (HB.out.cell (World.block_lt_of_cell? w _ hx143_2)).trans hx143_2; have HR143_1 := Aside0.mk hi143_1; have HC143_1 := Aside0.mk hl143_1; clear hi143_1 hl143_1; replace p143 := eq_true p143; replace q143 := eq_true q143; have p144 : 0 ≤ (t140 : Int) := of_decide_eq_true (by first | (with_reducible assumption) | assumption); have q144 : t140 < (((rd_T43 l0 x2_2).f1).length : Int) := of_decide_eq_true (by first | (with_reducible assumption) | assumption); obtain ⟨ad144, e144, hx144_0⟩ := Kd.at_int HR143_1.out t140 p144 q144; cases e144; replace hx144_0 := (HB.out.cell (World.block_lt_of_cell? w _ hx144_0)).trans hx144_0; replace p144 := eq_true p144; replace q144 := eq_true q144)); try go_wp2_with (first | (go_at_call 24; (with_reducible refine (squintlaw04_among.calls (rd l3 x12_2) (((rd_T43 l0 x1_2).f1).length : Int) t140 _ A40.out).mono ?_); rintro e w' ⟨rfl, ⟨nd, rfl⟩⟩; (try first | exact ⟨rfl, _, World.drewN_drewN _ _ _⟩ | exact ⟨rfl, _, Eq.trans (World.drewN_drewN _ _ _) (congrArg (World.drewN _) (Nat.add_assoc _ _ _))⟩); have p141 : 0 ≤ (x1_2 : Int) := of_decide_eq_true (by first | (with_reducible assumption) | assumption); have q141 : x1_2 < (l0.length : Int) := of_decide_eq_true (by first | (with_reducible assumption) | assumption); obtain ⟨ad141, A141_1, c141_1, e141, hx141_0, hx141_1, hx141_2, hl141_1, hi141_1⟩ := at_T43 HR0.out x1_2 p141 q141; obtain rfl : ad137 = ad141 := (by injection e141); replace hx141_0 := (HB.out.cell (World.block_lt_of_cell? w _ hx141_0)).trans hx141_0; replace hx141_1 := (HB.out.cell (World.block_lt_of_cell? w _ hx141_1)).trans hx141_1; replace hx141_2 := (HB.out.cell (World.block_lt_of_cell? w _ hx141_2)).trans hx141_2; have HR141_1 := Aside0.mk hi141_1; have HC141_1 := Aside0.mk hl141_1; clear hi141_1 hl141_1; replace p141 := eq_true p141; replace q141 := eq_true q141; have ea_ := Option.some.inj (hx137_1.symm.trans hx141_1); injection ea_ with ea_ en_ ec_; subst ea_; subst ec_; clear en_; have p142 : 0 ≤ (t140 : Int) := of_decide_eq_true (by first | (with_reducible assumption) | assumption); have q142 : t140 < (((rd_T43 l0 x1_2).f1).length : Int) := of_decide_eq_true (by first | (with_reducible assumption) | assumption); obtain ⟨ad142, e142, hx142_0⟩ := Kd.at_int HR141_1.out t140 p142 q142; cases e142; replace hx142_0 := (HB.out.cell (World.block_lt_of_cell? w _ hx142_0)).trans hx142_0; replace p142 := eq_true p142; replace q142 := eq_true q142; have p143 : 0 ≤ (x2_2 : Int) := of_decide_eq_true (by first | (with_reducible assumption) | assumption); have q143 : x2_2 < (l0.length : Int) := of_decide_eq_true (by first | (with_reducible assumption) | assumption); obtain ⟨ad143, A143_1, c143_1, e143, hx143_0, hx143_1, hx143_2, hl143_1, hi143_1⟩ := at_T43 HR0.out x2_2 p143 q143; obtain rfl : ad137 = ad143 := (by injection e143); replace hx143_0 := (HB.out.cell (World.block_lt_of_cell? w _ hx143_0)).trans hx143_0; replace hx143_1 := (HB.out.cell (World.block_lt_of_cell? w _ hx143_1)).trans hx143_1; replace hx143_2 := (HB.out.cell (World.block_lt_of_cell? w _ hx143_2)).trans hx143_2; have HR143_1 := Aside0.mk hi143_1; have HC143_1 := Aside0.mk hl143_1; clear hi143_1 hl143_1; replace p143 := eq_true p143; replace q143 := eq_true q143; have p144 : 0 ≤ (t140 : Int) := of_decide_eq_true (by first | (with_reducible assumption) | assumption); have q144 : t140 < (((rd_T43 l0 x2_2).f1).length : Int) := of_decide_eq_true (by first | (with_reducible assumption) | assumption); obtain ⟨ad144, e144, hx144_0⟩ := Kd.at_int HR143_1.out t140 p144 q144; cases e144; replace hx144_0 := (HB.out.cell (World.block_lt_of_cell? w _ hx144_0)).trans hx144_0; replace p144 := eq_true p144; replace q144 := eq_true q144)))
                                            go_roundg kj24
                                            case measure => have := HJ4.out; have := HK2.out; have := HJ24.out; omega
                                            case rel => exact ⟨(rd ((rd_T43 l0 x1_2).f1) t140), (rd ((rd_T43 l0 x2_2).f1) t140), (wrap64 (x12_2 + 1)), (by first | rfl | (simp; done) | (simp [*]; done)), (by first | rfl | (simp; done) | (simp [*]; done)), (by first | rfl | (simp; done) | (simp [*]; done)), H', ⟨by have := HJ4.out; have := HK2.out; have := HJ24.out; omega⟩, ⟨by repeat (first | (with_reducible first | exact HB.out | apply below_alloc | apply pw_below_drewN | apply below_drew1) | exact HB.out)⟩⟩
                                          · rw [if_neg c45] at H
                                            exact absurd H (by simp)
                                        · rw [if_neg c44] at H
                                          exact absurd H (by simp)
                                      · rw [if_neg c43] at H
                                        exact absurd H (by simp)
                                    · rw [if_neg c42] at H
                                      exact absurd H (by simp)
                                  · rw [if_neg c41] at H
                                    exact absurd H (by simp)
                                · rw [if_neg c39] at H
                                  exact absurd H (by simp)
                              · rw [if_neg c38] at H
                                exact absurd H (by simp)
                          · rw [if_neg c36] at H
                            exact absurd H (by simp)
                        · rw [if_neg c35] at H
                          exact absurd H (by simp)
              · rw [if_neg c24] at H
                have c24b0 : decide (x12_2 ≤ (l3.length : Int)) = false := decide_eq_false c24
                clear c24
                obtain rfl := Option.some.inj H
                go_wp2
                repeat (go_quiet (fail); try go_wp2)
                go_ret
                exact ⟨by first | rfl | (simp [errW_none, errW_some] <;> rfl) | (simp [*, errW_none, errW_some] <;> rfl), by repeat (first | (with_reducible first | exact HB.out | apply below_alloc | apply pw_below_drewN | apply below_drew1) | exact HB.out)⟩
        · replace c19 := Bool.eq_false_iff.mpr c19
          subst c19
          have H1 : (some t126) = some r := by rw [if_neg (show ¬ (false = true) by decide)] at H; exact H
          clear H
          have H := H1
          clear H1
          obtain rfl := Option.some.inj H
          go_wp2_with (first | (go_at_call 11; (with_reducible refine (squintlaw04_shown.calls  t126 _ A15.out).mono ?_); rintro e w46 ⟨rfl, hb⟩; have n0_ := Aside0.mk (below_step (by repeat (first | (with_reducible first | exact HB.out | apply below_alloc | apply pw_below_drewN | apply below_drew1) | exact HB.out)) hb); clear HB; have HB := n0_; clear n0_; (try clear hb); (try clear hb2); (try clear hk); (try clear hi)) | (go_at_call 24; (with_reducible refine (squintlaw04_among.calls a1 (l0.length : Int) t127 _ A16.out).mono ?_); rintro e w' ⟨rfl, ⟨nd, rfl⟩⟩; (try first | exact ⟨rfl, _, World.drewN_drewN _ _ _⟩ | exact ⟨rfl, _, Eq.trans (World.drewN_drewN _ _ _) (congrArg (World.drewN _) (Nat.add_assoc _ _ _))⟩)) | (go_at_call 24; (with_reducible refine (squintlaw04_among.calls a2 (l0.length : Int) t128 _ A17.out).mono ?_); rintro e w' ⟨rfl, ⟨nd, rfl⟩⟩; (try first | exact ⟨rfl, _, World.drewN_drewN _ _ _⟩ | exact ⟨rfl, _, Eq.trans (World.drewN_drewN _ _ _) (congrArg (World.drewN _) (Nat.add_assoc _ _ _))⟩)) | (go_at_call 19; (with_reducible refine (kinds_Valid.calls kj4 _ _ l0 false _ ?side1 ?side2 A18.out).mono ?_); (case side1 => repeat (first | exact (Kd.C_below HR0.out (by repeat (first | (with_reducible first | exact HB.out | apply below_alloc | apply pw_below_drewN | apply below_drew1) | exact HB.out))) | (with_reducible refine Kd.C_alloc ?_ _) | (with_reducible refine Kd.C_drewN ?_ _) | (with_reducible refine Kd.C_drew ?_))); (case side2 => exact HC0.out); rintro e w47 ⟨rfl, hb⟩; have n0_ := Aside0.mk (below_step (by repeat (first | (with_reducible first | exact HB.out | apply below_alloc | apply pw_below_drewN | apply below_drew1) | exact HB.out)) hb); clear HB; have HB := n0_; clear n0_; (try clear hb); (try clear hb2); (try clear hk); (try clear hi)))
          repeat (go_quiet (first | (go_at_call 11; (with_reducible refine (squintlaw04_shown.calls  t126 _ A15.out).mono ?_); rintro e w46 ⟨rfl, hb⟩; have n0_ := Aside0.mk (below_step (by repeat (first | (with_reducible first | exact HB.out | apply below_alloc | apply pw_below_drewN | apply below_drew1) | exact HB.out)) hb); clear HB; have HB := n0_; clear n0_; (try clear hb); (try clear hb2); (try clear hk); (try clear hi)) | (go_at_call 24; (with_reducible refine (squintlaw04_among.calls a1 (l0.length : Int) t127 _ A16.out).mono ?_); rintro e w' ⟨rfl, ⟨nd, rfl⟩⟩; (try first | exact ⟨rfl, _, World.drewN_drewN _ _ _⟩ | exact ⟨rfl, _, Eq.trans (World.drewN_drewN _ _ _) (congrArg (World.drewN _) (Nat.add_assoc _ _ _))⟩)) | (go_at_call 24; (with_reducible refine (squintlaw04_among.calls a2 (l0.length : Int) t128 _ A17.out).mono ?_); rintro e w' ⟨rfl, ⟨nd, rfl⟩⟩; (try first | exact ⟨rfl, _, World.drewN_drewN _ _ _⟩ | exact ⟨rfl, _, Eq.trans (World.drewN_drewN _ _ _) (congrArg (World.drewN _) (Nat.add_assoc _ _ _))⟩)) | (go_at_call 19; (with_reducible refine (kinds_Valid.calls kj4 _ _ l0 false _ ?side1 ?side2 A18.out).mono ?_); (case side1 => repeat (first | exact (Kd.C_below HR0.out (by repeat (first | (with_reducible first | exact HB.out | apply below_alloc | apply pw_below_drewN | apply below_drew1) | exact HB.out))) | (with_reducible refine Kd.C_alloc ?_ _) | (with_reducible refine Kd.C_drewN ?_ _) | (with_reducible refine Kd.C_drew ?_))); (case side2 => exact HC0.out); rintro e w47 ⟨rfl, hb⟩; have n0_ := Aside0.mk (below_step (by repeat (first | (with_reducible first | exact HB.out | apply below_alloc | apply pw_below_drewN | apply below_drew1) | exact HB.out)) hb); clear HB; have HB := n0_; clear n0_; (try clear hb); (try clear hb2); (try clear hk); (try clear hi))); try go_wp2_with (first | (go_at_call 11; (with_reducible refine (squintlaw04_shown.calls  t126 _ A15.out).mono ?_); rintro e w46 ⟨rfl, hb⟩; have n0_ := Aside0.mk (below_step (by repeat (first | (with_reducible first | exact HB.out | apply below_alloc | apply pw_below_drewN | apply below_drew1) | exact HB.out)) hb); clear HB; have HB := n0_; clear n0_; (try clear hb); (try clear hb2); (try clear hk); (try clear hi)) | (go_at_call 24; (with_reducible refine (squintlaw04_among.calls a1 (l0.length : Int) t127 _ A16.out).mono ?_); rintro e w' ⟨rfl, ⟨nd, rfl⟩⟩; (try first | exact ⟨rfl, _, World.drewN_drewN _ _ _⟩ | exact ⟨rfl, _, Eq.trans (World.drewN_drewN _ _ _) (congrArg (World.drewN _) (Nat.add_assoc _ _ _))⟩)) | (go_at_call 24; (with_reducible refine (squintlaw04_among.calls a2 (l0.length : Int) t128 _ A17.out).mono ?_); rintro e w' ⟨rfl, ⟨nd, rfl⟩⟩; (try first | exact ⟨rfl, _, World.drewN_drewN _ _ _⟩ | exact ⟨rfl, _, Eq.trans (World.drewN_drewN _ _ _) (congrArg (World.drewN _) (Nat.add_assoc _ _ _))⟩)) | (go_at_call 19; (with_reducible refine (kinds_Valid.calls kj4 _ _ l0 false _ ?side1 ?side2 A18.out).mono ?_); (case side1 => repeat (first | exact (Kd.C_below HR0.out (by repeat (first | (with_reducible first | exact HB.out | apply below_alloc | apply pw_below_drewN | apply below_drew1) | exact HB.out))) | (with_reducible refine Kd.C_alloc ?_ _) | (with_reducible refine Kd.C_drewN ?_ _) | (with_reducible refine Kd.C_drew ?_))); (case side2 => exact HC0.out); rintro e w47 ⟨rfl, hb⟩; have n0_ := Aside0.mk (below_step (by repeat (first | (with_reducible first | exact HB.out | apply below_alloc | apply pw_below_drewN | apply below_drew1) | exact HB.out)) hb); clear HB; have HB := n0_; clear n0_; (try clear hb); (try clear hb2); (try clear hk); (try clear hi))))
          go_ret
          exact ⟨by first | rfl | (simp [errW_none, errW_some] <;> rfl) | (simp [*, errW_none, errW_some] <;> rfl), by repeat (first | (with_reducible first | exact HB.out | apply below_alloc | apply pw_below_drewN | apply below_drew1) | exact HB.out)⟩

end Go.Proofs.Ytapagakfckjhdaa.PKindsWays
