-- written for this claim over a table of functions with stand-ins
import Derived.Test.YtapagakfckjhdaaPKindsSamex0
namespace Go.Proofs.Ytapagakfckjhdaa.PKindsSame
open Go.RowKit Go.Proofs.YtapagakfckjhdaaW.PrintWords Go.Proofs.YtapagakfckjhdaaW.PrintLast Go.Proofs.YtapagakfckjhdaaW.PrintMore
attribute [local go_sem] max2_int min2_int max_two min_two max_three min_three max_four min_four   -- for this text's walks alone
set_option linter.unusedVariables false
set_option linter.unusedSimpArgs false

/-! ### squintref04_Valid: function 21 -/
mutual
def squintref04_Valid.l0 : Nat → List (S43) → Int → Option (Bool)
  | 0, _, _ => none
  | k + 1, x0, x3 => if x3 < (x0.length : Int) then (if 0 ≤ x3 then (if ((rd_T43 x0 x3).f0) = 1 then (squintref04_Valid.j1 k x0 x3 (((rd_T43 x0 x3).f1).length : Int) false ((rd_T43 x0 x3).f0) (((rd_T43 x0 x3).f0) == 1)) else (squintref04_Valid.j1 k x0 x3 (((rd_T43 x0 x3).f1).length : Int) false ((rd_T43 x0 x3).f0) (((rd_T43 x0 x3).f0) == 2))) else (none)) else (some true)
def squintref04_Valid.j3 : Nat → List (S43) → Int → Int → Bool → Option (Bool)
  | 0, _, _, _, _ => none
  | k + 1, x0, x3, x4, x5 => if x5 = true then (if 0 ≤ x3 then (if x3 < (x0.length : Int) then (if (rd_T43 x0 x3).f2 = true then (squintref04_Valid.j4 k x0 x3 x4 (((rd_T43 x0 x3).f0) != 6)) else (squintref04_Valid.j4 k x0 x3 x4 false)) else (none)) else (none)) else (squintref04_Valid.j4 k x0 x3 x4 true)
def squintref04_Valid.j4 : Nat → List (S43) → Int → Int → Bool → Option (Bool)
  | 0, _, _, _, _ => none
  | k + 1, x0, x3, x4, x66 => if x66 = true then (some false) else (squintref04_Valid.l1 k x0 x3 x4 0)
def squintref04_Valid.l1 : Nat → List (S43) → Int → Int → Int → Option (Bool)
  | 0, _, _, _, _ => none
  | k + 1, x0, x3, x4, x6 => if x6 < x4 then (if 0 ≤ x3 then (if x3 < (x0.length : Int) then (if 0 ≤ x6 then (if x6 < (((rd_T43 x0 x3).f1).length : Int) then (if (rd ((rd_T43 x0 x3).f1) x6) < 0 then (some false) else (if (rd ((rd_T43 x0 x3).f1) x6) ≥ (x0.length : Int) then (some false) else (squintref04_Valid.l1 k x0 x3 x4 (wrap64 (x6 + 1))))) else (none)) else (none)) else (none)) else (none)) else (squintref04_Valid.l0 k x0 (wrap64 (x3 + 1)))
def squintref04_Valid.j1 : Nat → List (S43) → Int → Int → Bool → Int → Bool → Option (Bool)
  | 0, _, _, _, _, _, _ => none
  | k + 1, x0, x3, x4, x5, x23, x24 => if x24 = true then (squintref04_Valid.j3 k x0 x3 x4 (x4 == 0)) else (if x23 = 3 then (squintref04_Valid.j2 k x0 x3 x4 x5 x23 (x23 == 3)) else (squintref04_Valid.j2 k x0 x3 x4 x5 x23 (x23 == 5)))
def squintref04_Valid.j2 : Nat → List (S43) → Int → Int → Bool → Int → Bool → Option (Bool)
  | 0, _, _, _, _, _, _ => none
  | k + 1, x0, x3, x4, x5, x23, x29 => if x29 = true then (squintref04_Valid.j3 k x0 x3 x4 (x4 == 1)) else (if x23 = 4 then (squintref04_Valid.j3 k x0 x3 x4 (decide (x4 ≥ 2))) else (if x23 = 6 then (if 0 ≤ x3 then (if x3 < (x0.length : Int) then (if ((rd_T43 x0 x3).f2 = true) then (squintref04_Valid.j3 k x0 x3 x4 (decide (x4 ≥ 1))) else (squintref04_Valid.j3 k x0 x3 x4 true)) else (none)) else (none)) else (squintref04_Valid.j3 k x0 x3 x4 x5)))
end
def squintref04_Valid.f (k : Nat) (l0 : List (S43)) : Option (Bool) := squintref04_Valid.l0 k l0 0
theorem squintref04_Valid.mono_l : ∀ k, (∀ y0 y1, LeO (squintref04_Valid.l0 k y0 y1) (squintref04_Valid.l0 (k + 1) y0 y1)) ∧ (∀ y0 y1 y2 y3, LeO (squintref04_Valid.j3 k y0 y1 y2 y3) (squintref04_Valid.j3 (k + 1) y0 y1 y2 y3)) ∧ (∀ y0 y1 y2 y3, LeO (squintref04_Valid.j4 k y0 y1 y2 y3) (squintref04_Valid.j4 (k + 1) y0 y1 y2 y3)) ∧ (∀ y0 y1 y2 y3, LeO (squintref04_Valid.l1 k y0 y1 y2 y3) (squintref04_Valid.l1 (k + 1) y0 y1 y2 y3)) ∧ (∀ y0 y1 y2 y3 y4 y5, LeO (squintref04_Valid.j1 k y0 y1 y2 y3 y4 y5) (squintref04_Valid.j1 (k + 1) y0 y1 y2 y3 y4 y5)) ∧ (∀ y0 y1 y2 y3 y4 y5, LeO (squintref04_Valid.j2 k y0 y1 y2 y3 y4 y5) (squintref04_Valid.j2 (k + 1) y0 y1 y2 y3 y4 y5))
  | 0 => ⟨fun _ _ r h => by simp [squintref04_Valid.l0] at h, fun _ _ _ _ r h => by simp [squintref04_Valid.j3] at h, fun _ _ _ _ r h => by simp [squintref04_Valid.j4] at h, fun _ _ _ _ r h => by simp [squintref04_Valid.l1] at h, fun _ _ _ _ _ _ r h => by simp [squintref04_Valid.j1] at h, fun _ _ _ _ _ _ r h => by simp [squintref04_Valid.j2] at h⟩
  | k + 1 => by
    obtain ⟨ih0, ih1, ih2, ih3, ih4, ih5⟩ := squintref04_Valid.mono_l k
    refine ⟨?_, ?_, ?_, ?_, ?_, ?_⟩
    · intro y0 y1
      unfold squintref04_Valid.l0
      repeat' first
      | (with_reducible exact ih0 _ _)
      | (with_reducible exact ih1 _ _ _ _)
      | (with_reducible exact ih2 _ _ _ _)
      | (with_reducible exact ih3 _ _ _ _)
      | (with_reducible exact ih4 _ _ _ _ _ _)
      | (with_reducible exact ih5 _ _ _ _ _ _)
      | (with_reducible exact LeO.refl _)
      | (with_reducible exact LeO.none _)
      | (with_reducible refine LeO.ite ?_ ?_)
      | (with_reducible refine LeO.bind ?_ (fun _ => ?_))
      | exact ih0 _ _
      | exact ih1 _ _ _ _
      | exact ih2 _ _ _ _
      | exact ih3 _ _ _ _
      | exact ih4 _ _ _ _ _ _
      | exact ih5 _ _ _ _ _ _
      | exact LeO.none _
      | refine LeO.ite ?_ ?_
      | refine LeO.bind ?_ (fun _ => ?_)
    · intro y0 y1 y2 y3
      unfold squintref04_Valid.j3
      repeat' first
      | (with_reducible exact ih0 _ _)
      | (with_reducible exact ih1 _ _ _ _)
      | (with_reducible exact ih2 _ _ _ _)
      | (with_reducible exact ih3 _ _ _ _)
      | (with_reducible exact ih4 _ _ _ _ _ _)
      | (with_reducible exact ih5 _ _ _ _ _ _)
      | (with_reducible exact LeO.refl _)
      | (with_reducible exact LeO.none _)
      | (with_reducible refine LeO.ite ?_ ?_)
      | (with_reducible refine LeO.bind ?_ (fun _ => ?_))
      | exact ih0 _ _
      | exact ih1 _ _ _ _
      | exact ih2 _ _ _ _
      | exact ih3 _ _ _ _
      | exact ih4 _ _ _ _ _ _
      | exact ih5 _ _ _ _ _ _
      | exact LeO.none _
      | refine LeO.ite ?_ ?_
      | refine LeO.bind ?_ (fun _ => ?_)
    · intro y0 y1 y2 y3
      unfold squintref04_Valid.j4
      repeat' first
      | (with_reducible exact ih0 _ _)
      | (with_reducible exact ih1 _ _ _ _)
      | (with_reducible exact ih2 _ _ _ _)
      | (with_reducible exact ih3 _ _ _ _)
      | (with_reducible exact ih4 _ _ _ _ _ _)
      | (with_reducible exact ih5 _ _ _ _ _ _)
      | (with_reducible exact LeO.refl _)
      | (with_reducible exact LeO.none _)
      | (with_reducible refine LeO.ite ?_ ?_)
      | (with_reducible refine LeO.bind ?_ (fun _ => ?_))
      | exact ih0 _ _
      | exact ih1 _ _ _ _
      | exact ih2 _ _ _ _
      | exact ih3 _ _ _ _
      | exact ih4 _ _ _ _ _ _
      | exact ih5 _ _ _ _ _ _
      | exact LeO.none _
      | refine LeO.ite ?_ ?_
      | refine LeO.bind ?_ (fun _ => ?_)
    · intro y0 y1 y2 y3
      unfold squintref04_Valid.l1
      repeat' first
      | (with_reducible exact ih0 _ _)
      | (with_reducible exact ih1 _ _ _ _)
      | (with_reducible exact ih2 _ _ _ _)
      | (with_reducible exact ih3 _ _ _ _)
      | (with_reducible exact ih4 _ _ _ _ _ _)
      | (with_reducible exact ih5 _ _ _ _ _ _)
      | (with_reducible exact LeO.refl _)
      | (with_reducible exact LeO.none _)
      | (with_reducible refine LeO.ite ?_ ?_)
      | (with_reducible refine LeO.bind ?_ (fun _ => ?_))
      | exact ih0 _ _
      | exact ih1 _ _ _ _
      | exact ih2 _ _ _ _
      | exact ih3 _ _ _ _
      | exact ih4 _ _ _ _ _ _
      | exact ih5 _ _ _ _ _ _
      | exact LeO.none _
      | refine LeO.ite ?_ ?_
      | refine LeO.bind ?_ (fun _ => ?_)
    · intro y0 y1 y2 y3 y4 y5
      unfold squintref04_Valid.j1
      repeat' first
      | (with_reducible exact ih0 _ _)
      | (with_reducible exact ih1 _ _ _ _)
      | (with_reducible exact ih2 _ _ _ _)
      | (with_reducible exact ih3 _ _ _ _)
      | (with_reducible exact ih4 _ _ _ _ _ _)
      | (with_reducible exact ih5 _ _ _ _ _ _)
      | (with_reducible exact LeO.refl _)
      | (with_reducible exact LeO.none _)
      | (with_reducible refine LeO.ite ?_ ?_)
      | (with_reducible refine LeO.bind ?_ (fun _ => ?_))
      | exact ih0 _ _
      | exact ih1 _ _ _ _
      | exact ih2 _ _ _ _
      | exact ih3 _ _ _ _
      | exact ih4 _ _ _ _ _ _
      | exact ih5 _ _ _ _ _ _
      | exact LeO.none _
      | refine LeO.ite ?_ ?_
      | refine LeO.bind ?_ (fun _ => ?_)
    · intro y0 y1 y2 y3 y4 y5
      unfold squintref04_Valid.j2
      repeat' first
      | (with_reducible exact ih0 _ _)
      | (with_reducible exact ih1 _ _ _ _)
      | (with_reducible exact ih2 _ _ _ _)
      | (with_reducible exact ih3 _ _ _ _)
      | (with_reducible exact ih4 _ _ _ _ _ _)
      | (with_reducible exact ih5 _ _ _ _ _ _)
      | (with_reducible exact LeO.refl _)
      | (with_reducible exact LeO.none _)
      | (with_reducible refine LeO.ite ?_ ?_)
      | (with_reducible refine LeO.bind ?_ (fun _ => ?_))
      | exact ih0 _ _
      | exact ih1 _ _ _ _
      | exact ih2 _ _ _ _
      | exact ih3 _ _ _ _
      | exact ih4 _ _ _ _ _ _
      | exact ih5 _ _ _ _ _ _
      | exact LeO.none _
      | refine LeO.ite ?_ ?_
      | refine LeO.bind ?_ (fun _ => ?_)
theorem squintref04_Valid.mono : ∀ a0 k, LeO (squintref04_Valid.f k a0) (squintref04_Valid.f (k + 1) a0) := by
  intro a0 k
  obtain ⟨ih0, ih1, ih2, ih3, ih4, ih5⟩ := squintref04_Valid.mono_l k
  unfold squintref04_Valid.f
  repeat' first
      | (with_reducible exact ih0 _ _)
      | (with_reducible exact ih1 _ _ _ _)
      | (with_reducible exact ih2 _ _ _ _)
      | (with_reducible exact ih3 _ _ _ _)
      | (with_reducible exact ih4 _ _ _ _ _ _)
      | (with_reducible exact ih5 _ _ _ _ _ _)
      | (with_reducible exact LeO.refl _)
      | (with_reducible exact LeO.none _)
      | (with_reducible refine LeO.ite ?_ ?_)
      | (with_reducible refine LeO.bind ?_ (fun _ => ?_))
      | exact ih0 _ _
      | exact ih1 _ _ _ _
      | exact ih2 _ _ _ _
      | exact ih3 _ _ _ _
      | exact ih4 _ _ _ _ _ _
      | exact ih5 _ _ _ _ _ _
      | exact LeO.none _
      | refine LeO.ite ?_ ?_
      | refine LeO.bind ?_ (fun _ => ?_)
set_option maxHeartbeats 8000000 in
set_option maxRecDepth 100000 in
theorem squintref04_Valid.calls (k : Nat) (A0 : Option Addr) (c0 : Nat) (l0 : List (S43)) (r : Bool) (w : World) (hr0 : Kd.C k43 w A0 l0.length l0) (hc0 : l0.length ≤ c0) (h : squintref04_Valid.f k l0 = some r) :
    Calls Try.prog 21 #[.slice A0 l0.length c0] w fun e w' => e = .returned (.bool r) ∧ Drawn0 w w' := by
  have HR0 := Aside0.mk hr0
  have HC0 := Aside0.mk hc0
  clear hr0 hc0
  have H : (squintref04_Valid.l0 k l0 0) = some r := h
  clear h
  have H' := Aside0.mk H
  clear H
  go_enter Try.func21, Try.ntmps21
  go_wp2
  go_loopg [3] k (fun kq v3 w' => ∃ (x3_1 : Int), v3 = .int .i64 x3_1 ∧ Aside0 (squintref04_Valid.l0 kq l0 x3_1 = some r) ∧ Aside0 (kq ≤ k) ∧ Drawn0 w w')
  case atStart => exact ⟨(0), (by first | rfl | (simp; done) | (simp [*]; done)), H', ⟨Nat.le_refl _⟩, by repeat (first | exact Drawn0.refl _ | apply Drawn0.step)⟩
  case round =>
    clear H'
    obtain ⟨x3_1, rfl, HA, HK1, ⟨m1, rfl⟩⟩ := hrel
    cases gk with
    | zero => exact absurd HA.out (by simp [squintref04_Valid.l0])
    | succ k1 =>
      have H := HA.out
      clear HA
      simp only [squintref04_Valid.l0] at H
      by_cases c2 : x3_1 < (l0.length : Int)
      · rw [if_pos c2] at H
        have c2b0 : decide (x3_1 < (l0.length : Int)) = true := decide_eq_true c2
        clear c2
        by_cases c3 : 0 ≤ x3_1
        · rw [if_pos c3] at H
          have c3b0 : decide (0 ≤ x3_1) = true := decide_eq_true c3
          clear c3
          have HC4 := Aside0.mk H
          clear H
          have p149 : 0 ≤ (x3_1 : Int) := of_decide_eq_true (by first | (with_reducible assumption) | assumption)
          have q149 : x3_1 < (l0.length : Int) := of_decide_eq_true (by first | (with_reducible assumption) | assumption)
          obtain ⟨ad149, A149_1, c149_1, e149, hx149_0, hx149_1, hx149_2, hl149_1, hi149_1⟩ := at_T43 HR0.out x3_1 p149 q149
          cases e149
          have HR149_1 := Aside0.mk hi149_1
          have HC149_1 := Aside0.mk hl149_1
          clear hi149_1 hl149_1
          replace p149 := eq_true p149
          replace q149 := eq_true q149
          have p150 : 0 ≤ (x3_1 : Int) := of_decide_eq_true (by first | (with_reducible assumption) | assumption)
          have q150 : x3_1 < (l0.length : Int) := of_decide_eq_true (by first | (with_reducible assumption) | assumption)
          obtain ⟨ad150, A150_1, c150_1, e150, hx150_0, hx150_1, hx150_2, hl150_1, hi150_1⟩ := at_T43 HR0.out x3_1 p150 q150
          obtain rfl : ad149 = ad150 := (by injection e150)
          have HR150_1 := Aside0.mk hi150_1
          have HC150_1 := Aside0.mk hl150_1
          clear hi150_1 hl150_1
          replace p150 := eq_true p150
          replace q150 := eq_true q150
          have ea_ := Option.some.inj (hx149_1.symm.trans hx150_1)
          injection ea_ with ea_ en_ ec_
          subst ea_
          subst ec_
          clear en_
          go_upto_block 2 with (fail)
          go_cut [5] (fun v5 wc => ∃ (kq : Nat) (x5_3 : Bool), v5 = .bool x5_3 ∧ Aside0 (squintref04_Valid.j3 kq l0 x3_1 (((rd_T43 l0 x3_1).f1).length : Int) x5_3 = some r) ∧ Aside0 (kq ≤ k1) ∧ Drawn0 w wc)
          case first =>
            have H := HC4.out
            clear HC4
            have HC5 := Aside0.mk H
            clear H
            go_upto_if 24 with (fail)
            go_cut [24] (fun v24 wc => ∃ (kq : Nat) (x24_4 : Bool), v24 = .bool x24_4 ∧ Aside0 (squintref04_Valid.j1 kq l0 x3_1 (((rd_T43 l0 x3_1).f1).length : Int) false ((rd_T43 l0 x3_1).f0) x24_4 = some r) ∧ Aside0 (kq ≤ k1) ∧ Drawn0 w wc)
            case first =>
              have H := HC5.out
              clear HC5
              by_cases c6 : ((rd_T43 l0 x3_1).f0) = 1
              · rw [if_pos c6] at H
                have c6b0 : (((rd_T43 l0 x3_1).f0) == 1) = true := beq_iff_eq.mpr c6
                have c6b1 : (((rd_T43 l0 x3_1).f0) != 1) = false := bne_eq_false_iff_eq.mpr c6
                clear c6
                (first | rw [c6b0] | (simp only [i64_w, i32_w]; rw [c6b0]) | skip)
                have H' := Aside0.mk H
                clear H
                go_wp2
                go_meet
                case rel => exact ⟨_, ((((rd_T43 l0 x3_1).f0) == 1)), (by first | rfl | (simp; done) | (simp [*]; done)), H', ⟨by have := HK1.out; first | omega | exact Nat.le_refl _⟩, by repeat (first | exact Drawn0.refl _ | apply Drawn0.step)⟩
              · rw [if_neg c6] at H
                have c6b0 : (((rd_T43 l0 x3_1).f0) == 1) = false := beq_eq_false_iff_ne.mpr c6
                have c6b1 : (((rd_T43 l0 x3_1).f0) != 1) = true := bne_iff_ne.mpr c6
                (first | rw [c6b0] | (simp only [i64_w, i32_w]; rw [c6b0]) | skip)
                have H' := Aside0.mk H
                clear H
                go_wp2
                go_meet
                case rel => exact ⟨_, ((((rd_T43 l0 x3_1).f0) == 2)), (by first | rfl | (simp; done) | (simp [*]; done)), H', ⟨by have := HK1.out; first | omega | exact Nat.le_refl _⟩, by repeat (first | exact Drawn0.refl _ | apply Drawn0.step)⟩
            case rest =>
              clear HC5
              try clear c1
              try clear p1
              try clear q1
              try clear hx1
              try clear c2
              try clear c2b0
              try clear p2
              try clear c3
              try clear c3b0
              try clear c6
              try clear c6b0
              try clear c6b1
              try clear hx149_0
              try clear hx149_1
              try clear hx149_2
              try clear hx150_0
              try clear hx150_1
              try clear hx150_2
              try clear p149
              try clear p150
              try clear q149
              try clear q150
              obtain ⟨kq, x24_4, rfl, HA, HJ4, ⟨mc4, rfl⟩⟩ := hcut
              cases kq with
              | zero => exact absurd HA.out (by simp [squintref04_Valid.j1])
              | succ kj4 =>
                have H := HA.out
                clear HA
                simp only [squintref04_Valid.j1] at H
                by_cases c7 : x24_4 = true
                · subst c7
                  have H1 : (squintref04_Valid.j3 kj4 l0 x3_1 (((rd_T43 l0 x3_1).f1).length : Int) ((((rd_T43 l0 x3_1).f1).length : Int) == 0)) = some r := by rw [if_pos rfl] at H; exact H
                  clear H
                  have H := H1
                  clear H1
                  have H' := Aside0.mk H
                  clear H
                  go_wp2
                  go_meet
                  case rel => exact ⟨_, (((((rd_T43 l0 x3_1).f1).length : Int) == 0)), (by first | rfl | (simp; done) | (simp [*]; done)), H', ⟨by have := HK1.out; have := HJ4.out; first | omega | exact Nat.le_refl _⟩, by repeat (first | exact Drawn0.refl _ | apply Drawn0.step)⟩
                · replace c7 := Bool.eq_false_iff.mpr c7
                  subst c7
                  have H1 : (if ((rd_T43 l0 x3_1).f0) = 3 then (squintref04_Valid.j2 kj4 l0 x3_1 (((rd_T43 l0 x3_1).f1).length : Int) false ((rd_T43 l0 x3_1).f0) (((rd_T43 l0 x3_1).f0) == 3)) else (squintref04_Valid.j2 kj4 l0 x3_1 (((rd_T43 l0 x3_1).f1).length : Int) false ((rd_T43 l0 x3_1).f0) (((rd_T43 l0 x3_1).f0) == 5))) = some r := by rw [if_neg (show ¬ (false = true) by decide)] at H; exact H
                  clear H
                  have H := H1
                  clear H1
                  have HC8 := Aside0.mk H
                  clear H
                  go_upto_if 29 with (fail)
                  go_cut [29] (fun v29 wc => ∃ (kq : Nat) (x29_7 : Bool), v29 = .bool x29_7 ∧ Aside0 (squintref04_Valid.j2 kq l0 x3_1 (((rd_T43 l0 x3_1).f1).length : Int) false ((rd_T43 l0 x3_1).f0) x29_7 = some r) ∧ Aside0 (kq ≤ kj4) ∧ Drawn0 w wc)
                  case first =>
                    have H := HC8.out
                    clear HC8
                    by_cases c9 : ((rd_T43 l0 x3_1).f0) = 3
                    · rw [if_pos c9] at H
                      have c9b0 : (((rd_T43 l0 x3_1).f0) == 3) = true := beq_iff_eq.mpr c9
                      have c9b1 : (((rd_T43 l0 x3_1).f0) != 3) = false := bne_eq_false_iff_eq.mpr c9
                      clear c9
                      (first | rw [c9b0] | (simp only [i64_w, i32_w]; rw [c9b0]) | skip)
                      have H' := Aside0.mk H
                      clear H
                      go_wp2
                      go_meet
                      case rel => exact ⟨_, ((((rd_T43 l0 x3_1).f0) == 3)), (by first | rfl | (simp; done) | (simp [*]; done)), H', ⟨by have := HK1.out; have := HJ4.out; first | omega | exact Nat.le_refl _⟩, by repeat (first | exact Drawn0.refl _ | apply Drawn0.step)⟩
                    · rw [if_neg c9] at H
                      have c9b0 : (((rd_T43 l0 x3_1).f0) == 3) = false := beq_eq_false_iff_ne.mpr c9
                      have c9b1 : (((rd_T43 l0 x3_1).f0) != 3) = true := bne_iff_ne.mpr c9
                      (first | rw [c9b0] | (simp only [i64_w, i32_w]; rw [c9b0]) | skip)
                      have H' := Aside0.mk H
                      clear H
                      go_wp2
                      go_meet
                      case rel => exact ⟨_, ((((rd_T43 l0 x3_1).f0) == 5)), (by first | rfl | (simp; done) | (simp [*]; done)), H', ⟨by have := HK1.out; have := HJ4.out; first | omega | exact Nat.le_refl _⟩, by repeat (first | exact Drawn0.refl _ | apply Drawn0.step)⟩
                  case rest =>
                    clear HC8
                    try clear c1
                    try clear p1
                    try clear q1
                    try clear hx1
                    try clear c2
                    try clear c2b0
                    try clear p2
                    try clear c3
                    try clear c3b0
                    try clear c4
                    try clear c6
                    try clear c6b0
                    try clear c6b1
                    try clear c7
                    try clear c9
                    try clear c9b0
                    try clear c9b1
                    try clear hx149_0
                    try clear hx149_1
                    try clear hx149_2
                    try clear hx150_0
                    try clear hx150_1
                    try clear hx150_2
                    try clear p1
                    try clear p149
                    try clear p150
                    try clear p2
                    try clear q1
                    try clear q149
                    try clear q150
                    obtain ⟨kq, x29_7, rfl, HA, HJ7, ⟨mc7, rfl⟩⟩ := hcut
                    cases kq with
                    | zero => exact absurd HA.out (by simp [squintref04_Valid.j2])
                    | succ kj7 =>
                      have H := HA.out
                      clear HA
                      simp only [squintref04_Valid.j2] at H
                      by_cases c10 : x29_7 = true
                      · subst c10
                        have H1 : (squintref04_Valid.j3 kj7 l0 x3_1 (((rd_T43 l0 x3_1).f1).length : Int) ((((rd_T43 l0 x3_1).f1).length : Int) == 1)) = some r := by rw [if_pos rfl] at H; exact H
                        clear H
                        have H := H1
                        clear H1
                        have H' := Aside0.mk H
                        clear H
                        go_wp2
                        go_meet
                        case rel => exact ⟨_, (((((rd_T43 l0 x3_1).f1).length : Int) == 1)), (by first | rfl | (simp; done) | (simp [*]; done)), H', ⟨by have := HK1.out; have := HJ4.out; have := HJ7.out; first | omega | exact Nat.le_refl _⟩, by repeat (first | exact Drawn0.refl _ | apply Drawn0.step)⟩
                      · replace c10 := Bool.eq_false_iff.mpr c10
                        subst c10
                        have H1 : (if ((rd_T43 l0 x3_1).f0) = 4 then (squintref04_Valid.j3 kj7 l0 x3_1 (((rd_T43 l0 x3_1).f1).length : Int) (decide ((((rd_T43 l0 x3_1).f1).length : Int) ≥ 2))) else (if ((rd_T43 l0 x3_1).f0) = 6 then (if 0 ≤ x3_1 then (if x3_1 < (l0.length : Int) then (if ((rd_T43 l0 x3_1).f2 = true) then (squintref04_Valid.j3 kj7 l0 x3_1 (((rd_T43 l0 x3_1).f1).length : Int) (decide ((((rd_T43 l0 x3_1).f1).length : Int) ≥ 1))) else (squintref04_Valid.j3 kj7 l0 x3_1 (((rd_T43 l0 x3_1).f1).length : Int) true)) else (none)) else (none)) else (squintref04_Valid.j3 kj7 l0 x3_1 (((rd_T43 l0 x3_1).f1).length : Int) false))) = some r := by rw [if_neg (show ¬ (false = true) by decide)] at H; exact H
                        clear H
                        have H := H1
                        clear H1
                        by_cases c11 : ((rd_T43 l0 x3_1).f0) = 4
                        · rw [if_pos c11] at H
                          have c11b0 : (((rd_T43 l0 x3_1).f0) == 4) = true := beq_iff_eq.mpr c11
                          have c11b1 : (((rd_T43 l0 x3_1).f0) != 4) = false := bne_eq_false_iff_eq.mpr c11
                          clear c11
                          have H' := Aside0.mk H
                          clear H
                          go_wp2
                          go_meet
                          case rel => exact ⟨_, (decide ((((rd_T43 l0 x3_1).f1).length : Int) ≥ 2)), (by first | rfl | (simp; done) | (simp [*]; done)), H', ⟨by have := HK1.out; have := HJ4.out; have := HJ7.out; first | omega | exact Nat.le_refl _⟩, by repeat (first | exact Drawn0.refl _ | apply Drawn0.step)⟩
                        · rw [if_neg c11] at H
                          have c11b0 : (((rd_T43 l0 x3_1).f0) == 4) = false := beq_eq_false_iff_ne.mpr c11
                          have c11b1 : (((rd_T43 l0 x3_1).f0) != 4) = true := bne_iff_ne.mpr c11
                          by_cases c12 : ((rd_T43 l0 x3_1).f0) = 6
                          · rw [if_pos c12] at H
                            have c12b0 : (((rd_T43 l0 x3_1).f0) == 6) = true := beq_iff_eq.mpr c12
                            have c12b1 : (((rd_T43 l0 x3_1).f0) != 6) = false := bne_eq_false_iff_eq.mpr c12
                            clear c12
                            by_cases c13 : 0 ≤ x3_1
                            · rw [if_pos c13] at H
                              have c13b0 : decide (0 ≤ x3_1) = true := decide_eq_true c13
                              clear c13
                              by_cases c14 : x3_1 < (l0.length : Int)
                              · rw [if_pos c14] at H
                                have c14b0 : decide (x3_1 < (l0.length : Int)) = true := decide_eq_true c14
                                clear c14
                                obtain ⟨bq15, hbq15⟩ : ∃ b_ : Bool, b_ = ((rd_T43 l0 x3_1).f2) := ⟨_, rfl⟩
                                replace H : (if (bq15 = true) then (squintref04_Valid.j3 kj7 l0 x3_1 (((rd_T43 l0 x3_1).f1).length : Int) (decide ((((rd_T43 l0 x3_1).f1).length : Int) ≥ 1))) else (squintref04_Valid.j3 kj7 l0 x3_1 (((rd_T43 l0 x3_1).f1).length : Int) true)) = some r := by rw [← hbq15] at H; exact H
                                have Nbq15 := Aside0.mk hbq15
                                clear hbq15
                                by_cases c16 : (bq15 = true)
                                · subst c16
                                  have H1 : (squintref04_Valid.j3 kj7 l0 x3_1 (((rd_T43 l0 x3_1).f1).length : Int) (decide ((((rd_T43 l0 x3_1).f1).length : Int) ≥ 1))) = some r := by rw [if_pos rfl] at H; exact H
                                  clear H
                                  have H := H1
                                  clear H1
                                  have H' := Aside0.mk H
                                  clear H
                                  have p151 : 0 ≤ (x3_1 : Int) := of_decide_eq_true (by first | (with_reducible assumption) | assumption)
                                  have q151 : x3_1 < (l0.length : Int) := of_decide_eq_true (by first | (with_reducible assumption) | assumption)
                                  obtain ⟨ad151, A151_1, c151_1, e151, hx151_0, hx151_1, hx151_2, hl151_1, hi151_1⟩ := at_T43 HR0.out x3_1 p151 q151
                                  (try rw [← Nbq15.out] at hx151_2)
                                  obtain rfl : ad149 = ad151 := (by injection e151)
                                  have HR151_1 := Aside0.mk hi151_1
                                  have HC151_1 := Aside0.mk hl151_1
                                  clear hi151_1 hl151_1
                                  replace p151 := eq_true p151
                                  replace q151 := eq_true q151
                                  go_wp2
                                  go_meet
                                  case rel => exact ⟨_, (decide ((((rd_T43 l0 x3_1).f1).length : Int) ≥ 1)), (by first | rfl | (simp; done) | (simp [*]; done)), H', ⟨by have := HK1.out; have := HJ4.out; have := HJ7.out; first | omega | exact Nat.le_refl _⟩, by repeat (first | exact Drawn0.refl _ | apply Drawn0.step)⟩
                                · replace c16 := Bool.eq_false_iff.mpr c16
                                  subst c16
                                  have H1 : (squintref04_Valid.j3 kj7 l0 x3_1 (((rd_T43 l0 x3_1).f1).length : Int) true) = some r := by rw [if_neg (show ¬ (false = true) by decide)] at H; exact H
                                  clear H
                                  have H := H1
                                  clear H1
                                  have H' := Aside0.mk H
                                  clear H
                                  have p151 : 0 ≤ (x3_1 : Int) := of_decide_eq_true (by first | (with_reducible assumption) | assumption)
                                  have q151 : x3_1 < (l0.length : Int) := of_decide_eq_true (by first | (with_reducible assumption) | assumption)
                                  obtain ⟨ad151, A151_1, c151_1, e151, hx151_0, hx151_1, hx151_2, hl151_1, hi151_1⟩ := at_T43 HR0.out x3_1 p151 q151
                                  (try rw [← Nbq15.out] at hx151_2)
                                  obtain rfl : ad149 = ad151 := (by injection e151)
                                  have HR151_1 := Aside0.mk hi151_1
                                  have HC151_1 := Aside0.mk hl151_1
                                  clear hi151_1 hl151_1
                                  replace p151 := eq_true p151
                                  replace q151 := eq_true q151
                                  go_wp2
                                  go_meet
                                  case rel => exact ⟨_, (true), (by first | rfl | (simp; done) | (simp [*]; done)), H', ⟨by have := HK1.out; have := HJ4.out; have := HJ7.out; first | omega | exact Nat.le_refl _⟩, by repeat (first | exact Drawn0.refl _ | apply Drawn0.step)⟩
                              · rw [if_neg c14] at H
                                exact absurd H (by simp)
                            · rw [if_neg c13] at H
                              exact absurd H (by simp)
                          · rw [if_neg c12] at H
                            have c12b0 : (((rd_T43 l0 x3_1).f0) == 6) = false := beq_eq_false_iff_ne.mpr c12
                            have c12b1 : (((rd_T43 l0 x3_1).f0) != 6) = true := bne_iff_ne.mpr c12
                            have H' := Aside0.mk H
                            clear H
                            go_wp2
                            go_meet
                            case rel => exact ⟨_, (false), (by first | rfl | (simp; done) | (simp [*]; done)), H', ⟨by have := HK1.out; have := HJ4.out; have := HJ7.out; first | omega | exact Nat.le_refl _⟩, by repeat (first | exact Drawn0.refl _ | apply Drawn0.step)⟩
          case rest =>
            clear HC4
            try clear c1
            try clear p1
            try clear q1
            try clear hx1
            try clear c2
            try clear c2b0
            try clear p2
            try clear c3
            try clear c3b0
            try clear c4
            try clear c6
            try clear c6b0
            try clear c6b1
            try clear c7
            try clear c9
            try clear c9b0
            try clear c9b1
            try clear c10
            try clear c11
            try clear c11b0
            try clear c11b1
            try clear c12
            try clear c12b0
            try clear c12b1
            try clear c13
            try clear c13b0
            try clear c14
            try clear c14b0
            try clear p14
            try clear q14
            try clear hx14
            try clear c15
            try clear p15
            try clear q15
            try clear hx15
            try clear c16
            try clear hx149_0
            try clear hx149_1
            try clear hx149_2
            try clear hx150_0
            try clear hx150_1
            try clear hx150_2
            try clear hx151_0
            try clear hx151_1
            try clear hx151_2
            try clear p1
            try clear p149
            try clear p150
            try clear p151
            try clear p2
            try clear q1
            try clear q149
            try clear q150
            try clear q151
            obtain ⟨kq, x5_3, rfl, HA, HJ3, ⟨mc3, rfl⟩⟩ := hcut
            cases kq with
            | zero => exact absurd HA.out (by simp [squintref04_Valid.j3])
            | succ kj3 =>
              have H := HA.out
              clear HA
              simp only [squintref04_Valid.j3] at H
              have HC17 := Aside0.mk H
              clear H
              go_upto_region 17 with (fail)
              go_cut [66] (fun v66 wc => ∃ (kq : Nat) (x66_16 : Bool), v66 = .bool x66_16 ∧ Aside0 (squintref04_Valid.j4 kq l0 x3_1 (((rd_T43 l0 x3_1).f1).length : Int) x66_16 = some r) ∧ Aside0 (kq ≤ kj3) ∧ Drawn0 w wc)
              case first =>
                have H := HC17.out
                clear HC17
                by_cases c18 : x5_3 = true
                · subst c18
                  have H1 : (if 0 ≤ x3_1 then (if x3_1 < (l0.length : Int) then (if (rd_T43 l0 x3_1).f2 = true then (squintref04_Valid.j4 kj3 l0 x3_1 (((rd_T43 l0 x3_1).f1).length : Int) (((rd_T43 l0 x3_1).f0) != 6)) else (squintref04_Valid.j4 kj3 l0 x3_1 (((rd_T43 l0 x3_1).f1).length : Int) false)) else (none)) else (none)) = some r := by rw [if_pos rfl] at H; exact H
                  clear H
                  have H := H1
                  clear H1
                  by_cases c19 : 0 ≤ x3_1
                  · rw [if_pos c19] at H
                    have c19b0 : decide (0 ≤ x3_1) = true := decide_eq_true c19
                    clear c19
                    (first | rw [c19b0] | (simp only [i64_w, i32_w]; rw [c19b0]) | skip)
                    by_cases c20 : x3_1 < (l0.length : Int)
                    · rw [if_pos c20] at H
                      have c20b0 : decide (x3_1 < (l0.length : Int)) = true := decide_eq_true c20
                      clear c20
                      obtain ⟨bq21, hbq21⟩ : ∃ b_ : Bool, b_ = ((rd_T43 l0 x3_1).f2) := ⟨_, rfl⟩
                      replace H : (if bq21 = true then (squintref04_Valid.j4 kj3 l0 x3_1 (((rd_T43 l0 x3_1).f1).length : Int) (((rd_T43 l0 x3_1).f0) != 6)) else (squintref04_Valid.j4 kj3 l0 x3_1 (((rd_T43 l0 x3_1).f1).length : Int) false)) = some r := by rw [← hbq21] at H; exact H
                      have Nbq21 := Aside0.mk hbq21
                      clear hbq21
                      by_cases c22 : bq21 = true
                      · subst c22
                        have H1 : (squintref04_Valid.j4 kj3 l0 x3_1 (((rd_T43 l0 x3_1).f1).length : Int) (((rd_T43 l0 x3_1).f0) != 6)) = some r := by rw [if_pos rfl] at H; exact H
                        clear H
                        have H := H1
                        clear H1
                        have H' := Aside0.mk H
                        clear H
                        have p152 : 0 ≤ (x3_1 : Int) := of_decide_eq_true (by first | (with_reducible assumption) | assumption)
                        have q152 : x3_1 < (l0.length : Int) := of_decide_eq_true (by first | (with_reducible assumption) | assumption)
                        obtain ⟨ad152, A152_1, c152_1, e152, hx152_0, hx152_1, hx152_2, hl152_1, hi152_1⟩ := at_T43 HR0.out x3_1 p152 q152
                        (try rw [← Nbq21.out] at hx152_2)
                        obtain rfl : ad149 = ad152 := (by injection e152)
                        have HR152_1 := Aside0.mk hi152_1
                        have HC152_1 := Aside0.mk hl152_1
                        clear hi152_1 hl152_1
                        replace p152 := eq_true p152
                        replace q152 := eq_true q152
                        have p153 : 0 ≤ (x3_1 : Int) := of_decide_eq_true (by first | (with_reducible assumption) | assumption)
                        have q153 : x3_1 < (l0.length : Int) := of_decide_eq_true (by first | (with_reducible assumption) | assumption)
                        obtain ⟨ad153, A153_1, c153_1, e153, hx153_0, hx153_1, hx153_2, hl153_1, hi153_1⟩ := at_T43 HR0.out x3_1 p153 q153
                        (try rw [← Nbq21.out] at hx153_2)
                        obtain rfl : ad149 = ad153 := (by injection e153)
                        have HR153_1 := Aside0.mk hi153_1
                        have HC153_1 := Aside0.mk hl153_1
                        clear hi153_1 hl153_1
                        replace p153 := eq_true p153
                        replace q153 := eq_true q153
                        have ea_ := Option.some.inj (hx152_1.symm.trans hx153_1)
                        injection ea_ with ea_ en_ ec_
                        subst ea_
                        subst ec_
                        clear en_
                        go_wp2
                        go_meet
                        case rel => exact ⟨_, ((((rd_T43 l0 x3_1).f0) != 6)), (by first | rfl | (simp; done) | (simp [*]; done)), H', ⟨by have := HK1.out; have := HJ3.out; first | omega | exact Nat.le_refl _⟩, by repeat (first | exact Drawn0.refl _ | apply Drawn0.step)⟩
                      · replace c22 := Bool.eq_false_iff.mpr c22
                        subst c22
                        have H1 : (squintref04_Valid.j4 kj3 l0 x3_1 (((rd_T43 l0 x3_1).f1).length : Int) false) = some r := by rw [if_neg (show ¬ (false = true) by decide)] at H; exact H
                        clear H
                        have H := H1
                        clear H1
                        have H' := Aside0.mk H
                        clear H
                        have p152 : 0 ≤ (x3_1 : Int) := of_decide_eq_true (by first | (with_reducible assumption) | assumption)
                        have q152 : x3_1 < (l0.length : Int) := of_decide_eq_true (by first | (with_reducible assumption) | assumption)
                        obtain ⟨ad152, A152_1, c152_1, e152, hx152_0, hx152_1, hx152_2, hl152_1, hi152_1⟩ := at_T43 HR0.out x3_1 p152 q152
                        (try rw [← Nbq21.out] at hx152_2)
                        obtain rfl : ad149 = ad152 := (by injection e152)
                        have HR152_1 := Aside0.mk hi152_1
                        have HC152_1 := Aside0.mk hl152_1
                        clear hi152_1 hl152_1
                        replace p152 := eq_true p152
                        replace q152 := eq_true q152
                        go_wp2
                        go_meet
                        case rel => exact ⟨_, (false), (by first | rfl | (simp; done) | (simp [*]; done)), H', ⟨by have := HK1.out; have := HJ3.out; first | omega | exact Nat.le_refl _⟩, by repeat (first | exact Drawn0.refl _ | apply Drawn0.step)⟩
                    · rw [if_neg c20] at H
                      exact absurd H (by simp)
                  · rw [if_neg c19] at H
                    exact absurd H (by simp)
                · replace c18 := Bool.eq_false_iff.mpr c18
                  subst c18
                  have H1 : (squintref04_Valid.j4 kj3 l0 x3_1 (((rd_T43 l0 x3_1).f1).length : Int) true) = some r := by rw [if_neg (show ¬ (false = true) by decide)] at H; exact H
                  clear H
                  have H := H1
                  clear H1
                  have H' := Aside0.mk H
                  clear H
                  go_wp2
                  go_meet
                  case rel => exact ⟨_, (true), (by first | rfl | (simp; done) | (simp [*]; done)), H', ⟨by have := HK1.out; have := HJ3.out; first | omega | exact Nat.le_refl _⟩, by repeat (first | exact Drawn0.refl _ | apply Drawn0.step)⟩
              case rest =>
                clear HC17
                try clear c1
                try clear p1
                try clear q1
                try clear hx1
                try clear c2
                try clear c2b0
                try clear p2
                try clear q2
                try clear c3
                try clear c3b0
                try clear c4
                try clear c6
                try clear c6b0
                try clear c6b1
                try clear c7
                try clear c9
                try clear c9b0
                try clear c9b1
                try clear c10
                try clear c11
                try clear c11b0
                try clear c11b1
                try clear c12
                try clear c12b0
                try clear c12b1
                try clear c13
                try clear c13b0
                try clear c14
                try clear c14b0
                try clear p14
                try clear q14
                try clear hx14
                try clear c15
                try clear p15
                try clear q15
                try clear hx15
                try clear c16
                try clear c18
                try clear c19
                try clear c19b0
                try clear c20
                try clear c20b0
                try clear c21
                try clear q21
                try clear c22
                try clear hx149_0
                try clear hx149_1
                try clear hx149_2
                try clear hx150_0
                try clear hx150_1
                try clear hx150_2
                try clear hx151_0
                try clear hx151_1
                try clear hx151_2
                try clear hx152_0
                try clear hx152_1
                try clear hx152_2
                try clear hx153_0
                try clear hx153_1
                try clear hx153_2
                try clear p1
                try clear p14
                try clear p149
                try clear p15
                try clear p150
                try clear p151
                try clear p152
                try clear p153
                try clear p2
                try clear q1
                try clear q14
                try clear q149
                try clear q15
                try clear q150
                try clear q151
                try clear q152
                try clear q153
                obtain ⟨kq, x66_16, rfl, HA, HJ16, ⟨mc16, rfl⟩⟩ := hcut
                cases kq with
                | zero => exact absurd HA.out (by simp [squintref04_Valid.j4])
                | succ kj16 =>
                  have H := HA.out
                  clear HA
                  simp only [squintref04_Valid.j4] at H
                  by_cases c23 : x66_16 = true
                  · subst c23
                    have H1 : (some false) = some r := by rw [if_pos rfl] at H; exact H
                    clear H
                    have H := H1
                    clear H1
                    obtain rfl := Option.some.inj H
                    go_wp2
                    go_ret
                    exact ⟨by first | rfl | (simp; done) | (simp [*]; done), by repeat (first | exact Drawn0.refl _ | apply Drawn0.step)⟩
                  · replace c23 := Bool.eq_false_iff.mpr c23
                    subst c23
                    have H1 : (squintref04_Valid.l1 kj16 l0 x3_1 (((rd_T43 l0 x3_1).f1).length : Int) 0) = some r := by rw [if_neg (show ¬ (false = true) by decide)] at H; exact H
                    clear H
                    have H := H1
                    clear H1
                    have H' := Aside0.mk H
                    clear H
                    go_wp2
                    go_loopg [6] kj16 (fun kq v6 w' => ∃ (x6_4 : Int), v6 = .int .i64 x6_4 ∧ Aside0 (squintref04_Valid.l1 kq l0 x3_1 (((rd_T43 l0 x3_1).f1).length : Int) x6_4 = some r) ∧ Aside0 (kq ≤ kj16) ∧ Drawn0 w w')
                    case atStart => exact ⟨(0), (by first | rfl | (simp; done) | (simp [*]; done)), H', ⟨Nat.le_refl _⟩, by repeat (first | exact Drawn0.refl _ | apply Drawn0.step)⟩
                    case round =>
                      clear H'
                      try clear c1
                      try clear p1
                      try clear q1
                      try clear hx1
                      try clear c2
                      try clear c2b0
                      try clear p2
                      try clear q2
                      try clear c3
                      try clear c3b0
                      try clear c4
                      try clear c6
                      try clear c6b0
                      try clear c6b1
                      try clear c7
                      try clear c9
                      try clear c9b0
                      try clear c9b1
                      try clear c10
                      try clear c11
                      try clear c11b0
                      try clear c11b1
                      try clear c12
                      try clear c12b0
                      try clear c12b1
                      try clear c13
                      try clear c13b0
                      try clear c14
                      try clear c14b0
                      try clear p14
                      try clear q14
                      try clear hx14
                      try clear c15
                      try clear p15
                      try clear q15
                      try clear hx15
                      try clear c16
                      try clear c18
                      try clear c19
                      try clear c19b0
                      try clear c20
                      try clear c20b0
                      try clear c21
                      try clear q21
                      try clear c22
                      try clear c23
                      try clear hx149_0
                      try clear hx149_1
                      try clear hx149_2
                      try clear hx150_0
                      try clear hx150_1
                      try clear hx150_2
                      try clear hx151_0
                      try clear hx151_1
                      try clear hx151_2
                      try clear hx152_0
                      try clear hx152_1
                      try clear hx152_2
                      try clear hx153_0
                      try clear hx153_1
                      try clear hx153_2
                      try clear p1
                      try clear p14
                      try clear p149
                      try clear p15
                      try clear p150
                      try clear p151
                      try clear p152
                      try clear p153
                      try clear p2
                      try clear q1
                      try clear q14
                      try clear q149
                      try clear q15
                      try clear q150
                      try clear q151
                      try clear q152
                      try clear q153
                      try clear q2
                      try clear q21
                      obtain ⟨x6_4, rfl, HA, HK4, ⟨m4, rfl⟩⟩ := hrel
                      cases gk with
                      | zero => exact absurd HA.out (by simp [squintref04_Valid.l1])
                      | succ k4 =>
                        have H := HA.out
                        clear HA
                        simp only [squintref04_Valid.l1] at H
                        by_cases c24 : x6_4 < (((rd_T43 l0 x3_1).f1).length : Int)
                        · rw [if_pos c24] at H
                          have c24b0 : decide (x6_4 < (((rd_T43 l0 x3_1).f1).length : Int)) = true := decide_eq_true c24
                          clear c24
                          by_cases c25 : 0 ≤ x3_1
                          · rw [if_pos c25] at H
                            have c25b0 : decide (0 ≤ x3_1) = true := decide_eq_true c25
                            clear c25
                            by_cases c26 : x3_1 < (l0.length : Int)
                            · rw [if_pos c26] at H
                              have c26b0 : decide (x3_1 < (l0.length : Int)) = true := decide_eq_true c26
                              clear c26
                              by_cases c27 : 0 ≤ x6_4
                              · rw [if_pos c27] at H
                                have c27b0 : decide (0 ≤ x6_4) = true := decide_eq_true c27
                                clear c27
                                by_cases c28 : x6_4 < (((rd_T43 l0 x3_1).f1).length : Int)
                                · rw [if_pos c28] at H
                                  have c28b0 : decide (x6_4 < (((rd_T43 l0 x3_1).f1).length : Int)) = true := decide_eq_true c28
                                  clear c28
                                  by_cases c29 : (rd ((rd_T43 l0 x3_1).f1) x6_4) < 0
                                  · rw [if_pos c29] at H
                                    have c29b0 : decide ((rd ((rd_T43 l0 x3_1).f1) x6_4) < 0) = true := decide_eq_true c29
                                    clear c29
                                    obtain rfl := Option.some.inj H
                                    have p154 : 0 ≤ (x3_1 : Int) := of_decide_eq_true (by first | (with_reducible assumption) | assumption)
                                    have q154 : x3_1 < (l0.length : Int) := of_decide_eq_true (by first | (with_reducible assumption) | assumption)
                                    obtain ⟨ad154, A154_1, c154_1, e154, hx154_0, hx154_1, hx154_2, hl154_1, hi154_1⟩ := at_T43 HR0.out x3_1 p154 q154
                                    obtain rfl : ad149 = ad154 := (by injection e154)
                                    have HR154_1 := Aside0.mk hi154_1
                                    have HC154_1 := Aside0.mk hl154_1
                                    clear hi154_1 hl154_1
                                    replace p154 := eq_true p154
                                    replace q154 := eq_true q154
                                    have p155 : 0 ≤ (x6_4 : Int) := of_decide_eq_true (by first | (with_reducible assumption) | assumption)
                                    have q155 : x6_4 < (((rd_T43 l0 x3_1).f1).length : Int) := of_decide_eq_true (by first | (with_reducible assumption) | assumption)
                                    obtain ⟨ad155, e155, hx155_0⟩ := Kd.at_int HR154_1.out x6_4 p155 q155
                                    cases e155
                                    replace p155 := eq_true p155
                                    replace q155 := eq_true q155
                                    go_wp2
                                    go_ret
                                    exact ⟨by first | rfl | (simp; done) | (simp [*]; done), by repeat (first | exact Drawn0.refl _ | apply Drawn0.step)⟩
                                  · rw [if_neg c29] at H
                                    have c29b0 : decide ((rd ((rd_T43 l0 x3_1).f1) x6_4) < 0) = false := decide_eq_false c29
                                    clear c29
                                    by_cases c30 : (rd ((rd_T43 l0 x3_1).f1) x6_4) ≥ (l0.length : Int)
                                    · rw [if_pos c30] at H
                                      have c30b0 : decide ((l0.length : Int) ≤ (rd ((rd_T43 l0 x3_1).f1) x6_4)) = true := decide_eq_true c30
                                      clear c30
                                      obtain rfl := Option.some.inj H
                                      have p154 : 0 ≤ (x3_1 : Int) := of_decide_eq_true (by first | (with_reducible assumption) | assumption)
                                      have q154 : x3_1 < (l0.length : Int) := of_decide_eq_true (by first | (with_reducible assumption) | assumption)
                                      obtain ⟨ad154, A154_1, c154_1, e154, hx154_0, hx154_1, hx154_2, hl154_1, hi154_1⟩ := at_T43 HR0.out x3_1 p154 q154
                                      obtain rfl : ad149 = ad154 := (by injection e154)
                                      have HR154_1 := Aside0.mk hi154_1
                                      have HC154_1 := Aside0.mk hl154_1
                                      clear hi154_1 hl154_1
                                      replace p154 := eq_true p154
                                      replace q154 := eq_true q154
                                      have p155 : 0 ≤ (x6_4 : Int) := of_decide_eq_true (by first | (with_reducible assumption) | assumption)
                                      have q155 : x6_4 < (((rd_T43 l0 x3_1).f1).length : Int) := of_decide_eq_true (by first | (with_reducible assumption) | assumption)
                                      obtain ⟨ad155, e155, hx155_0⟩ := Kd.at_int HR154_1.out x6_4 p155 q155
                                      cases e155
                                      replace p155 := eq_true p155
                                      replace q155 := eq_true q155
                                      have p156 : 0 ≤ (x3_1 : Int) := of_decide_eq_true (by first | (with_reducible assumption) | assumption)
                                      have q156 : x3_1 < (l0.length : Int) := of_decide_eq_true (by first | (with_reducible assumption) | assumption)
                                      obtain ⟨ad156, A156_1, c156_1, e156, hx156_0, hx156_1, hx156_2, hl156_1, hi156_1⟩ := at_T43 HR0.out x3_1 p156 q156
                                      obtain rfl : ad149 = ad156 := (by injection e156)
                                      have HR156_1 := Aside0.mk hi156_1
                                      have HC156_1 := Aside0.mk hl156_1
                                      clear hi156_1 hl156_1
                                      replace p156 := eq_true p156
                                      replace q156 := eq_true q156
                                      have ea_ := Option.some.inj (hx154_1.symm.trans hx156_1)
                                      injection ea_ with ea_ en_ ec_
                                      subst ea_
                                      subst ec_
                                      clear en_
                                      have p157 : 0 ≤ (x6_4 : Int) := of_decide_eq_true (by first | (with_reducible assumption) | assumption)
                                      have q157 : x6_4 < (((rd_T43 l0 x3_1).f1).length : Int) := of_decide_eq_true (by first | (with_reducible assumption) | assumption)
                                      obtain ⟨ad157, e157, hx157_0⟩ := Kd.at_int HR156_1.out x6_4 p157 q157
                                      cases e157
                                      replace p157 := eq_true p157
                                      replace q157 := eq_true q157
                                      go_wp2
                                      go_ret
                                      exact ⟨by first | rfl | (simp; done) | (simp [*]; done), by repeat (first | exact Drawn0.refl _ | apply Drawn0.step)⟩
                                    · rw [if_neg c30] at H
                                      have c30b0 : decide ((l0.length : Int) ≤ (rd ((rd_T43 l0 x3_1).f1) x6_4)) = false := decide_eq_false c30
                                      clear c30
                                      have H' := Aside0.mk H
                                      clear H
                                      have p154 : 0 ≤ (x3_1 : Int) := of_decide_eq_true (by first | (with_reducible assumption) | assumption)
                                      have q154 : x3_1 < (l0.length : Int) := of_decide_eq_true (by first | (with_reducible assumption) | assumption)
                                      obtain ⟨ad154, A154_1, c154_1, e154, hx154_0, hx154_1, hx154_2, hl154_1, hi154_1⟩ := at_T43 HR0.out x3_1 p154 q154
                                      obtain rfl : ad149 = ad154 := (by injection e154)
                                      have HR154_1 := Aside0.mk hi154_1
                                      have HC154_1 := Aside0.mk hl154_1
                                      clear hi154_1 hl154_1
                                      replace p154 := eq_true p154
                                      replace q154 := eq_true q154
                                      have p155 : 0 ≤ (x6_4 : Int) := of_decide_eq_true (by first | (with_reducible assumption) | assumption)
                                      have q155 : x6_4 < (((rd_T43 l0 x3_1).f1).length : Int) := of_decide_eq_true (by first | (with_reducible assumption) | assumption)
                                      obtain ⟨ad155, e155, hx155_0⟩ := Kd.at_int HR154_1.out x6_4 p155 q155
                                      cases e155
                                      replace p155 := eq_true p155
                                      replace q155 := eq_true q155
                                      have p156 : 0 ≤ (x3_1 : Int) := of_decide_eq_true (by first | (with_reducible assumption) | assumption)
                                      have q156 : x3_1 < (l0.length : Int) := of_decide_eq_true (by first | (with_reducible assumption) | assumption)
                                      obtain ⟨ad156, A156_1, c156_1, e156, hx156_0, hx156_1, hx156_2, hl156_1, hi156_1⟩ := at_T43 HR0.out x3_1 p156 q156
                                      obtain rfl : ad149 = ad156 := (by injection e156)
                                      have HR156_1 := Aside0.mk hi156_1
                                      have HC156_1 := Aside0.mk hl156_1
                                      clear hi156_1 hl156_1
                                      replace p156 := eq_true p156
                                      replace q156 := eq_true q156
                                      have ea_ := Option.some.inj (hx154_1.symm.trans hx156_1)
                                      injection ea_ with ea_ en_ ec_
                                      subst ea_
                                      subst ec_
                                      clear en_
                                      have p157 : 0 ≤ (x6_4 : Int) := of_decide_eq_true (by first | (with_reducible assumption) | assumption)
                                      have q157 : x6_4 < (((rd_T43 l0 x3_1).f1).length : Int) := of_decide_eq_true (by first | (with_reducible assumption) | assumption)
                                      obtain ⟨ad157, e157, hx157_0⟩ := Kd.at_int HR156_1.out x6_4 p157 q157
                                      cases e157
                                      replace p157 := eq_true p157
                                      replace q157 := eq_true q157
                                      go_wp2
                                      go_roundg k4
                                      case measure => have := HK1.out; have := HJ3.out; have := HJ16.out; have := HK4.out; omega
                                      case rel => exact ⟨(wrap64 (x6_4 + 1)), (by first | rfl | (simp; done) | (simp [*]; done)), H', ⟨by have := HK1.out; have := HJ3.out; have := HJ16.out; have := HK4.out; omega⟩, by repeat (first | exact Drawn0.refl _ | apply Drawn0.step)⟩
                                · rw [if_neg c28] at H
                                  exact absurd H (by simp)
                              · rw [if_neg c27] at H
                                exact absurd H (by simp)
                            · rw [if_neg c26] at H
                              exact absurd H (by simp)
                          · rw [if_neg c25] at H
                            exact absurd H (by simp)
                        · rw [if_neg c24] at H
                          have c24b0 : decide (x6_4 < (((rd_T43 l0 x3_1).f1).length : Int)) = false := decide_eq_false c24
                          clear c24
                          have H' := Aside0.mk H
                          clear H
                          go_wp2
                          go_roundg k4
                          case measure => have := HK1.out; have := HJ3.out; have := HJ16.out; have := HK4.out; omega
                          case rel => exact ⟨(wrap64 (x3_1 + 1)), (by first | rfl | (simp; done) | (simp [*]; done)), H', ⟨by have := HK1.out; have := HJ3.out; have := HJ16.out; have := HK4.out; omega⟩, by repeat (first | exact Drawn0.refl _ | apply Drawn0.step)⟩
        · rw [if_neg c3] at H
          exact absurd H (by simp)
      · rw [if_neg c2] at H
        have c2b0 : decide (x3_1 < (l0.length : Int)) = false := decide_eq_false c2
        clear c2
        obtain rfl := Option.some.inj H
        go_wp2
        go_ret
        exact ⟨by first | rfl | (simp; done) | (simp [*]; done), by repeat (first | exact Drawn0.refl _ | apply Drawn0.step)⟩

end Go.Proofs.Ytapagakfckjhdaa.PKindsSame
