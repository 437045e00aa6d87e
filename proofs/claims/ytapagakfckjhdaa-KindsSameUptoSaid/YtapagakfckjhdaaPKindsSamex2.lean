-- written for this claim over a table of functions with stand-ins
import Derived.Test.YtapagakfckjhdaaPKindsSamex0
namespace Go.Proofs.Ytapagakfckjhdaa.PKindsSame
open Go.RowKit Go.Proofs.YtapagakfckjhdaaW.PrintWords Go.Proofs.YtapagakfckjhdaaW.PrintLast Go.Proofs.YtapagakfckjhdaaW.PrintMore
attribute [local go_sem] max2_int min2_int max_two min_two max_three min_three max_four min_four   -- for this text's walks alone
set_option linter.unusedVariables false
set_option linter.unusedSimpArgs false

/-! ### squintlaw04_numbers: function 29 -/
def squintlaw04_numbers.l0 : Nat → List Int → List Int → Int → Option (Bool)
  | 0, _, _, _ => none
  | k + 1, x0, x1, x5 => if x5 < (x0.length : Int) then (if 0 ≤ x5 then (if x5 < (x1.length : Int) then (if (rd x0 x5) = (rd x1 x5) then (squintlaw04_numbers.l0 k x0 x1 (wrap64 (x5 + 1))) else (some false)) else (none)) else (none)) else (some true)
def squintlaw04_numbers.f (k : Nat) (l0 : List Int) (l1 : List Int) : Option (Bool) := if (l0.length : Int) = (l1.length : Int) then (squintlaw04_numbers.l0 k l0 l1 0) else (some false)
theorem squintlaw04_numbers.mono_l : ∀ k, (∀ y0 y1 y2, LeO (squintlaw04_numbers.l0 k y0 y1 y2) (squintlaw04_numbers.l0 (k + 1) y0 y1 y2))
  | 0 => fun _ _ _ r h => by simp [squintlaw04_numbers.l0] at h
  | k + 1 => by
    have ih0 := squintlaw04_numbers.mono_l k
    · intro y0 y1 y2
      unfold squintlaw04_numbers.l0
      repeat' first
      | (with_reducible exact ih0 _ _ _)
      | (with_reducible exact LeO.refl _)
      | (with_reducible exact LeO.none _)
      | (with_reducible refine LeO.ite ?_ ?_)
      | (with_reducible refine LeO.bind ?_ (fun _ => ?_))
      | exact ih0 _ _ _
      | exact LeO.none _
      | refine LeO.ite ?_ ?_
      | refine LeO.bind ?_ (fun _ => ?_)
theorem squintlaw04_numbers.mono : ∀ a0 a1 k, LeO (squintlaw04_numbers.f k a0 a1) (squintlaw04_numbers.f (k + 1) a0 a1) := by
  intro a0 a1 k
  have ih0 := squintlaw04_numbers.mono_l k
  unfold squintlaw04_numbers.f
  repeat' first
      | (with_reducible exact ih0 _ _ _)
      | (with_reducible exact LeO.refl _)
      | (with_reducible exact LeO.none _)
      | (with_reducible refine LeO.ite ?_ ?_)
      | (with_reducible refine LeO.bind ?_ (fun _ => ?_))
      | exact ih0 _ _ _
      | exact LeO.none _
      | refine LeO.ite ?_ ?_
      | refine LeO.bind ?_ (fun _ => ?_)
set_option maxHeartbeats 8000000 in
set_option maxRecDepth 100000 in
theorem squintlaw04_numbers.calls (k : Nat) (A0 : Option Addr) (c0 : Nat) (l0 : List Int) (A1 : Option Addr) (c1 : Nat) (l1 : List Int) (r : Bool) (w : World) (hr0 : Kd.C (Kd.int .i64) w A0 l0.length l0) (hc0 : l0.length ≤ c0) (hr1 : Kd.C (Kd.int .i64) w A1 l1.length l1) (hc1 : l1.length ≤ c1) (h : squintlaw04_numbers.f k l0 l1 = some r) :
    Calls Try.prog 29 #[.slice A0 l0.length c0, .slice A1 l1.length c1] w fun e w' => e = .returned (.bool r) ∧ Drawn0 w w' := by
  have HR0 := Aside0.mk hr0
  have HC0 := Aside0.mk hc0
  clear hr0 hc0
  have HR1 := Aside0.mk hr1
  have HC1 := Aside0.mk hc1
  clear hr1 hc1
  have H : (if (l0.length : Int) = (l1.length : Int) then (squintlaw04_numbers.l0 k l0 l1 0) else (some false)) = some r := h
  clear h
  by_cases c3 : (l0.length : Int) = (l1.length : Int)
  · rw [if_pos c3] at H
    have c3b0 : ((l0.length : Int) == (l1.length : Int)) = true := beq_iff_eq.mpr c3
    have c3b1 : ((l0.length : Int) != (l1.length : Int)) = false := bne_eq_false_iff_eq.mpr c3
    have c3b2 : (l0.length == l1.length) = true := by first | simpa using c3 | (simp at c3 ⊢; omega)
    clear c3
    have H' := Aside0.mk H
    clear H
    go_enter Try.func29, Try.ntmps29
    go_wp2
    repeat (go_quiet (fail); try go_wp2)
    go_loopg [5] k (fun kq v5 w' => ∃ (x5_1 : Int), v5 = .int .i64 x5_1 ∧ Aside0 (squintlaw04_numbers.l0 kq l0 l1 x5_1 = some r) ∧ Aside0 (kq ≤ k) ∧ Drawn0 w w')
    case atStart => exact ⟨(0), (by first | rfl | (simp; done) | (simp [*]; done)), H', ⟨Nat.le_refl _⟩, by repeat (first | exact Drawn0.refl _ | apply Drawn0.step)⟩
    case round =>
      clear H'
      try clear c1
      try clear c2
      try clear p2
      try clear c3
      try clear c3b0
      try clear c3b1
      try clear c3b2
      obtain ⟨x5_1, rfl, HA, HK1, ⟨m1, rfl⟩⟩ := hrel
      cases gk with
      | zero => exact absurd HA.out (by simp [squintlaw04_numbers.l0])
      | succ k1 =>
        have H := HA.out
        clear HA
        simp only [squintlaw04_numbers.l0] at H
        by_cases c4 : x5_1 < (l0.length : Int)
        · rw [if_pos c4] at H
          have c4b0 : decide (x5_1 < (l0.length : Int)) = true := decide_eq_true c4
          clear c4
          by_cases c5 : 0 ≤ x5_1
          · rw [if_pos c5] at H
            have c5b0 : decide (0 ≤ x5_1) = true := decide_eq_true c5
            clear c5
            by_cases c6 : x5_1 < (l1.length : Int)
            · rw [if_pos c6] at H
              have c6b0 : decide (x5_1 < (l1.length : Int)) = true := decide_eq_true c6
              clear c6
              by_cases c7 : (rd l0 x5_1) = (rd l1 x5_1)
              · rw [if_pos c7] at H
                have c7b0 : ((rd l0 x5_1) == (rd l1 x5_1)) = true := beq_iff_eq.mpr c7
                have c7b1 : ((rd l0 x5_1) != (rd l1 x5_1)) = false := bne_eq_false_iff_eq.mpr c7
                clear c7
                have H' := Aside0.mk H
                clear H
                have p132 : 0 ≤ (x5_1 : Int) := of_decide_eq_true (by first | (with_reducible assumption) | assumption)
                have q132 : x5_1 < (l0.length : Int) := of_decide_eq_true (by first | (with_reducible assumption) | assumption)
                obtain ⟨ad132, e132, hx132_0⟩ := Kd.at_int HR0.out x5_1 p132 q132
                cases e132
                replace p132 := eq_true p132
                replace q132 := eq_true q132
                have p133 : 0 ≤ (x5_1 : Int) := of_decide_eq_true (by first | (with_reducible assumption) | assumption)
                have q133 : x5_1 < (l1.length : Int) := of_decide_eq_true (by first | (with_reducible assumption) | assumption)
                obtain ⟨ad133, e133, hx133_0⟩ := Kd.at_int HR1.out x5_1 p133 q133
                cases e133
                replace p133 := eq_true p133
                replace q133 := eq_true q133
                go_wp2
                repeat (go_quiet (fail); try go_wp2)
                go_roundg k1
                case measure => have := HK1.out; omega
                case rel => exact ⟨(wrap64 (x5_1 + 1)), (by first | rfl | (simp; done) | (simp [*]; done)), H', ⟨by have := HK1.out; omega⟩, by repeat (first | exact Drawn0.refl _ | apply Drawn0.step)⟩
              · rw [if_neg c7] at H
                have c7b0 : ((rd l0 x5_1) == (rd l1 x5_1)) = false := beq_eq_false_iff_ne.mpr c7
                have c7b1 : ((rd l0 x5_1) != (rd l1 x5_1)) = true := bne_iff_ne.mpr c7
                obtain rfl := Option.some.inj H
                have p132 : 0 ≤ (x5_1 : Int) := of_decide_eq_true (by first | (with_reducible assumption) | assumption)
                have q132 : x5_1 < (l0.length : Int) := of_decide_eq_true (by first | (with_reducible assumption) | assumption)
                obtain ⟨ad132, e132, hx132_0⟩ := Kd.at_int HR0.out x5_1 p132 q132
                cases e132
                replace p132 := eq_true p132
                replace q132 := eq_true q132
                have p133 : 0 ≤ (x5_1 : Int) := of_decide_eq_true (by first | (with_reducible assumption) | assumption)
                have q133 : x5_1 < (l1.length : Int) := of_decide_eq_true (by first | (with_reducible assumption) | assumption)
                obtain ⟨ad133, e133, hx133_0⟩ := Kd.at_int HR1.out x5_1 p133 q133
                cases e133
                replace p133 := eq_true p133
                replace q133 := eq_true q133
                go_wp2
                repeat (go_quiet (fail); try go_wp2)
                go_ret
                exact ⟨by first | rfl | (simp; done) | (simp [*]; done), by repeat (first | exact Drawn0.refl _ | apply Drawn0.step)⟩
            · rw [if_neg c6] at H
              exact absurd H (by simp)
          · rw [if_neg c5] at H
            exact absurd H (by simp)
        · rw [if_neg c4] at H
          have c4b0 : decide (x5_1 < (l0.length : Int)) = false := decide_eq_false c4
          clear c4
          obtain rfl := Option.some.inj H
          go_wp2
          repeat (go_quiet (fail); try go_wp2)
          go_ret
          exact ⟨by first | rfl | (simp; done) | (simp [*]; done), by repeat (first | exact Drawn0.refl _ | apply Drawn0.step)⟩
  · rw [if_neg c3] at H
    have c3b0 : ((l0.length : Int) == (l1.length : Int)) = false := beq_eq_false_iff_ne.mpr c3
    have c3b1 : ((l0.length : Int) != (l1.length : Int)) = true := bne_iff_ne.mpr c3
    have c3b2 : (l0.length == l1.length) = false := by first | simpa using c3 | (simp at c3 ⊢; omega)
    obtain rfl := Option.some.inj H
    go_enter Try.func29, Try.ntmps29
    go_wp2
    repeat (go_quiet (fail); try go_wp2)
    go_ret
    exact ⟨by first | rfl | (simp; done) | (simp [*]; done), by repeat (first | exact Drawn0.refl _ | apply Drawn0.step)⟩

/-! ### squintlaw04_rows: function 20 -/
def squintlaw04_rows.l0 : Nat → List (S43) → List (S43) → Int → Option (Bool)
  | 0, _, _, _ => none
  | k + 1, x0, x1, x5 => if x5 < (x0.length : Int) then (if 0 ≤ x5 then (if x5 < (x1.length : Int) then ((squintlaw04_numbers.f k ((rd_T43 x0 x5).f1) ((rd_T43 x1 x5).f1)).bind fun t136 => (if t136 = true then (if ((rd_T43 x0 x5).f0) = ((rd_T43 x1 x5).f0) then (if (((rd_T43 x0 x5).f2) != ((rd_T43 x1 x5).f2)) = true then (some false) else (squintlaw04_rows.l0 k x0 x1 (wrap64 (x5 + 1)))) else (some false)) else (some false))) else (none)) else (none)) else (some true)
def squintlaw04_rows.f (k : Nat) (l0 : List (S43)) (l1 : List (S43)) : Option (Bool) := if (l0.length : Int) = (l1.length : Int) then (squintlaw04_rows.l0 k l0 l1 0) else (some false)
theorem squintlaw04_rows.mono_l : ∀ k, (∀ y0 y1 y2, LeO (squintlaw04_rows.l0 k y0 y1 y2) (squintlaw04_rows.l0 (k + 1) y0 y1 y2))
  | 0 => fun _ _ _ r h => by simp [squintlaw04_rows.l0] at h
  | k + 1 => by
    have ih0 := squintlaw04_rows.mono_l k
    · intro y0 y1 y2
      unfold squintlaw04_rows.l0
      repeat' first
      | (with_reducible exact ih0 _ _ _)
      | (with_reducible exact squintlaw04_numbers.mono _ _ _)
      | (with_reducible exact LeO.refl _)
      | (with_reducible exact LeO.none _)
      | (with_reducible refine LeO.ite ?_ ?_)
      | (with_reducible refine LeO.bind ?_ (fun _ => ?_))
      | exact ih0 _ _ _
      | exact squintlaw04_numbers.mono _ _ _
      | exact LeO.none _
      | refine LeO.ite ?_ ?_
      | refine LeO.bind ?_ (fun _ => ?_)
theorem squintlaw04_rows.mono : ∀ a0 a1 k, LeO (squintlaw04_rows.f k a0 a1) (squintlaw04_rows.f (k + 1) a0 a1) := by
  intro a0 a1 k
  have ih0 := squintlaw04_rows.mono_l k
  unfold squintlaw04_rows.f
  repeat' first
      | (with_reducible exact ih0 _ _ _)
      | (with_reducible exact squintlaw04_numbers.mono _ _ _)
      | (with_reducible exact LeO.refl _)
      | (with_reducible exact LeO.none _)
      | (with_reducible refine LeO.ite ?_ ?_)
      | (with_reducible refine LeO.bind ?_ (fun _ => ?_))
      | exact ih0 _ _ _
      | exact squintlaw04_numbers.mono _ _ _
      | exact LeO.none _
      | refine LeO.ite ?_ ?_
      | refine LeO.bind ?_ (fun _ => ?_)
set_option maxHeartbeats 8000000 in
set_option maxRecDepth 100000 in
theorem squintlaw04_rows.calls (k : Nat) (A0 : Option Addr) (c0 : Nat) (l0 : List (S43)) (A1 : Option Addr) (c1 : Nat) (l1 : List (S43)) (r : Bool) (w : World) (hr0 : Kd.C k43 w A0 l0.length l0) (hc0 : l0.length ≤ c0) (hr1 : Kd.C k43 w A1 l1.length l1) (hc1 : l1.length ≤ c1) (h : squintlaw04_rows.f k l0 l1 = some r) :
    Calls Try.prog 20 #[.slice A0 l0.length c0, .slice A1 l1.length c1] w fun e w' => e = .returned (.bool r) ∧ Drawn0 w w' := by
  have HR0 := Aside0.mk hr0
  have HC0 := Aside0.mk hc0
  clear hr0 hc0
  have HR1 := Aside0.mk hr1
  have HC1 := Aside0.mk hc1
  clear hr1 hc1
  have H : (if (l0.length : Int) = (l1.length : Int) then (squintlaw04_rows.l0 k l0 l1 0) else (some false)) = some r := h
  clear h
  by_cases c3 : (l0.length : Int) = (l1.length : Int)
  · rw [if_pos c3] at H
    have c3b0 : ((l0.length : Int) == (l1.length : Int)) = true := beq_iff_eq.mpr c3
    have c3b1 : ((l0.length : Int) != (l1.length : Int)) = false := bne_eq_false_iff_eq.mpr c3
    have c3b2 : (l0.length == l1.length) = true := by first | simpa using c3 | (simp at c3 ⊢; omega)
    clear c3
    have H' := Aside0.mk H
    clear H
    go_enter Try.func20, Try.ntmps20
    go_wp2
    repeat (go_quiet (fail); try go_wp2)
    go_loopg [5] k (fun kq v5 w' => ∃ (x5_1 : Int), v5 = .int .i64 x5_1 ∧ Aside0 (squintlaw04_rows.l0 kq l0 l1 x5_1 = some r) ∧ Aside0 (kq ≤ k) ∧ Drawn0 w w')
    case atStart => exact ⟨(0), (by first | rfl | (simp; done) | (simp [*]; done)), H', ⟨Nat.le_refl _⟩, by repeat (first | exact Drawn0.refl _ | apply Drawn0.step)⟩
    case round =>
      clear H'
      try clear c1
      try clear c2
      try clear p2
      try clear c3
      try clear c3b0
      try clear c3b1
      try clear c3b2
      obtain ⟨x5_1, rfl, HA, HK1, ⟨m1, rfl⟩⟩ := hrel
      cases gk with
      | zero => exact absurd HA.out (by simp [squintlaw04_rows.l0])
      | succ k1 =>
        have H := HA.out
        clear HA
        simp only [squintlaw04_rows.l0] at H
        by_cases c4 : x5_1 < (l0.length : Int)
        · rw [if_pos c4] at H
          have c4b0 : decide (x5_1 < (l0.length : Int)) = true := decide_eq_true c4
          clear c4
          by_cases c5 : 0 ≤ x5_1
          · rw [if_pos c5] at H
            have c5b0 : decide (0 ≤ x5_1) = true := decide_eq_true c5
            clear c5
            by_cases c6 : x5_1 < (l1.length : Int)
            · rw [if_pos c6] at H
              have c6b0 : decide (x5_1 < (l1.length : Int)) = true := decide_eq_true c6
              clear c6
              replace H := Option.bind_eq_some_iff.mp H
              obtain ⟨t136, A70, H⟩ := H
              replace H : (if t136 = true then (if ((rd_T43 l0 x5_1).f0) = ((rd_T43 l1 x5_1).f0) then (if (((rd_T43 l0 x5_1).f2) != ((rd_T43 l1 x5_1).f2)) = true then (some false) else (squintlaw04_rows.l0 k1 l0 l1 (wrap64 (x5_1 + 1)))) else (some false)) else (some false)) = some r := H
              have A7 := Aside0.mk A70
              clear A70
              by_cases c8 : t136 = true
              · subst c8
                have H1 : (if ((rd_T43 l0 x5_1).f0) = ((rd_T43 l1 x5_1).f0) then (if (((rd_T43 l0 x5_1).f2) != ((rd_T43 l1 x5_1).f2)) = true then (some false) else (squintlaw04_rows.l0 k1 l0 l1 (wrap64 (x5_1 + 1)))) else (some false)) = some r := by rw [if_pos rfl] at H; exact H
                clear H
                have H := H1
                clear H1
                by_cases c9 : ((rd_T43 l0 x5_1).f0) = ((rd_T43 l1 x5_1).f0)
                · rw [if_pos c9] at H
                  have c9b0 : (((rd_T43 l0 x5_1).f0) == ((rd_T43 l1 x5_1).f0)) = true := beq_iff_eq.mpr c9
                  have c9b1 : (((rd_T43 l0 x5_1).f0) != ((rd_T43 l1 x5_1).f0)) = false := bne_eq_false_iff_eq.mpr c9
                  clear c9
                  by_cases c10 : (((rd_T43 l0 x5_1).f2) != ((rd_T43 l1 x5_1).f2)) = true
                  · rw [if_pos c10] at H
                    have c10b0 : (((rd_T43 l0 x5_1).f2) != ((rd_T43 l1 x5_1).f2)) = true := c10
                    (try (have c10b1 : decide (((rd_T43 l0 x5_1).f2) = ((rd_T43 l1 x5_1).f2)) = false := by simpa using c10))
                    (try (have c10b2 : (((rd_T43 l0 x5_1).f2) == ((rd_T43 l1 x5_1).f2)) = false := by simpa using c10))
                    (try (have c10b3 : ¬ (((rd_T43 l0 x5_1).f2) = ((rd_T43 l1 x5_1).f2)) := by simpa using c10))
                    clear c10
                    obtain rfl := Option.some.inj H
                    have p134 : 0 ≤ (x5_1 : Int) := of_decide_eq_true (by first | (with_reducible assumption) | assumption)
                    have q134 : x5_1 < (l0.length : Int) := of_decide_eq_true (by first | (with_reducible assumption) | assumption)
                    obtain ⟨ad134, A134_1, c134_1, e134, hx134_0, hx134_1, hx134_2, hl134_1, hi134_1⟩ := at_T43 HR0.out x5_1 p134 q134
                    cases e134
                    have HR134_1 := Aside0.mk hi134_1
                    have HC134_1 := Aside0.mk hl134_1
                    clear hi134_1 hl134_1
                    replace p134 := eq_true p134
                    replace q134 := eq_true q134
                    have p135 : 0 ≤ (x5_1 : Int) := of_decide_eq_true (by first | (with_reducible assumption) | assumption)
                    have q135 : x5_1 < (l1.length : Int) := of_decide_eq_true (by first | (with_reducible assumption) | assumption)
                    obtain ⟨ad135, A135_1, c135_1, e135, hx135_0, hx135_1, hx135_2, hl135_1, hi135_1⟩ := at_T43 HR1.out x5_1 p135 q135
                    cases e135
                    have HR135_1 := Aside0.mk hi135_1
                    have HC135_1 := Aside0.mk hl135_1
                    clear hi135_1 hl135_1
                    replace p135 := eq_true p135
                    replace q135 := eq_true q135
                    go_wp2_with (first | (go_at_call 29; (with_reducible refine (squintlaw04_numbers.calls k1 _ _ ((rd_T43 l0 x5_1).f1) _ _ ((rd_T43 l1 x5_1).f1) true _ ?side1 ?side2 ?side3 ?side4 A7.out).mono ?_); (case side1 => repeat (first | exact HR134_1.out | (with_reducible refine Kd.C_alloc ?_ _) | (with_reducible refine Kd.C_drewN ?_ _) | (with_reducible refine Kd.C_drew ?_))); (case side2 => exact HC134_1.out); (case side3 => repeat (first | exact HR135_1.out | (with_reducible refine Kd.C_alloc ?_ _) | (with_reducible refine Kd.C_drewN ?_ _) | (with_reducible refine Kd.C_drew ?_))); (case side4 => exact HC135_1.out); rintro e w' ⟨rfl, ⟨nd, rfl⟩⟩; (try first | exact ⟨rfl, _, World.drewN_drewN _ _ _⟩ | exact ⟨rfl, _, Eq.trans (World.drewN_drewN _ _ _) (congrArg (World.drewN _) (Nat.add_assoc _ _ _))⟩); have p137 : 0 ≤ (x5_1 : Int) := of_decide_eq_true (by first | (with_reducible assumption) | assumption); have q137 : x5_1 < (l0.length : Int) := of_decide_eq_true (by first | (with_reducible assumption) | assumption); obtain ⟨ad137, A137_1, c137_1, e137, hx137_0, hx137_1, hx137_2, hl137_1, hi137_1⟩ := at_T43 HR0.out x5_1 p137 q137; obtain rfl : ad134 = ad137 := (by injection e137); have HR137_1 := Aside0.mk hi137_1; have HC137_1 := Aside0.mk hl137_1; clear hi137_1 hl137_1; replace p137 := eq_true p137; replace q137 := eq_true q137; have ea_ := Option.some.inj (hx134_1.symm.trans hx137_1); injection ea_ with ea_ en_ ec_; subst ea_; subst ec_; clear en_; have p138 : 0 ≤ (x5_1 : Int) := of_decide_eq_true (by first | (with_reducible assumption) | assumption); have q138 : x5_1 < (l1.length : Int) := of_decide_eq_true (by first | (with_reducible assumption) | assumption); obtain ⟨ad138, A138_1, c138_1, e138, hx138_0, hx138_1, hx138_2, hl138_1, hi138_1⟩ := at_T43 HR1.out x5_1 p138 q138; obtain rfl : ad135 = ad138 := (by injection e138); have HR138_1 := Aside0.mk hi138_1; have HC138_1 := Aside0.mk hl138_1; clear hi138_1 hl138_1; replace p138 := eq_true p138; replace q138 := eq_true q138; have ea_ := Option.some.inj (hx135_1.symm.trans hx138_1); injection ea_ with ea_ en_ ec_; subst ea_; subst ec_; clear en_; have p139 : 0 ≤ (x5_1 : Int) := of_decide_eq_true (by first | (with_reducible assumption) | assumption); have q139 : x5_1 < (l0.length : Int) := of_decide_eq_true (by first | (with_reducible assumption) | assumption); obtain ⟨ad139, A139_1, c139_1, e139, hx139_0, hx139_1, hx139_2, hl139_1, hi139_1⟩ := at_T43 HR0.out x5_1 p139 q139; obtain rfl : ad134 = ad139 := (by injection e139); have HR139_1 := Aside0.mk hi139_1; have HC139_1 := Aside0.mk hl139_1; clear hi139_1 hl139_1; replace p139 := eq_true p139; replace q139 := eq_true q139; have ea_ := Option.some.inj (hx134_1.symm.trans hx139_1); injection ea_ with ea_ en_ ec_; subst ea_; subst ec_; clear en_; have p140 : 0 ≤ (x5_1 : Int) := of_decide_eq_true (by first | (with_reducible assumption) | assumption); have q140 : x5_1 < (l1.length : Int) := of_decide_eq_true (by first | (with_reducible assumption) | assumption); obtain ⟨ad140, A140_1, c140_1, e140, hx140_0, hx140_1, hx140_2, hl140_1, hi140_1⟩ := at_T43 HR1.out x5_1 p140 q140; obtain rfl : ad135 = ad140 := (by injection e140); have HR140_1 := Aside0.mk hi140_1; have HC140_1 := Aside0.mk hl140_1; clear hi140_1 hl140_1; replace p140 := eq_true p140; replace q140 := eq_true q140; have ea_ := Option.some.inj (hx135_1.symm.trans hx140_1); injection ea_ with ea_ en_ ec_; subst ea_; subst ec_; clear en_))
                    repeat (go_quiet (first | (go_at_call 29; (with_reducible refine (squintlaw04_numbers.calls k1 _ _ ((rd_T43 l0 x5_1).f1) _ _ ((rd_T43 l1 x5_1).f1) true _ ?side1 ?side2 ?side3 ?side4 A7.out).mono ?_); (case side1 => repeat (first | exact HR134_1.out | (with_reducible refine Kd.C_alloc ?_ _) | (with_reducible refine Kd.C_drewN ?_ _) | (with_reducible refine Kd.C_drew ?_))); (case side2 => exact HC134_1.out); (case side3 => repeat (first | exact HR135_1.out | (with_reducible refine Kd.C_alloc ?_ _) | (with_reducible refine Kd.C_drewN ?_ _) | (with_reducible refine Kd.C_drew ?_))); (case side4 => exact HC135_1.out); rintro e w' ⟨rfl, ⟨nd, rfl⟩⟩; (try first | exact ⟨rfl, _, World.drewN_drewN _ _ _⟩ | exact ⟨rfl, _, Eq.trans (World.drewN_drewN _ _ _) (congrArg (World.drewN _) (Nat.add_assoc _ _ _))⟩); have p137 : 0 ≤ (x5_1 : Int) := of_decide_eq_true (by first | (with_reducible assumption) | assumption); have q137 : x5_1 < (l0.length : Int) := of_decide_eq_true (by first | (with_reducible assumption) | assumption); obtain ⟨ad137, A137_1, c137_1, e137, hx137_0, hx137_1, hx137_2, hl137_1, hi137_1⟩ := at_T43 HR0.out x5_1 p137 q137; obtain rfl : ad134 = ad137 := (by injection e137); have HR137_1 := Aside0.mk hi137_1; have HC137_1 := Aside0.mk hl137_1; clear hi137_1 hl137_1; replace p137 := eq_true p137; replace q137 := eq_true q137; have ea_ := Option.some.inj (hx134_1.symm.trans hx137_1); injection ea_ with ea_ en_ ec_; subst ea_; subst ec_; clear en_; have p138 : 0 ≤ (x5_1 : Int) := of_decide_eq_true (by first | (with_reducible assumption) | assumption); have q138 : x5_1 < (l1.length : Int) := of_decide_eq_true (by first | (with_reducible assumption) | assumption); obtain ⟨ad138, A138_1, c138_1, e138, hx138_0, hx138_1, hx138_2, hl138_1, hi138_1⟩ := at_T43 HR1.out x5_1 p138 q138; obtain rfl : ad135 = ad138 := (by injection e138); have HR138_1 := Aside0.mk hi138_1; have HC138_1 := Aside0.mk hl138_1; clear hi138_1 hl138_1; replace p138 := eq_true p138; replace q138 := eq_true q138; have ea_ := Option.some.inj (hx135_1.symm.trans hx138_1); injection ea_ with ea_ en_ ec_; subst ea_; subst ec_; clear en_; have p139 : 0 ≤ (x5_1 : Int) := of_decide_eq_true (by first | (with_reducible assumption) | assumption); have q139 : x5_1 < (l0.length : Int) := of_decide_eq_true (by first | (with_reducible assumption) | assumption); obtain ⟨ad139, A139_1, c139_1, e139, hx139_0, hx139_1, hx139_2, hl139_1, hi139_1⟩ := at_T43 HR0.out x5_1 p139 q139; obtain rfl : ad134 = ad139 := (by injection e139); have HR139_1 := Aside0.mk hi139_1; have HC139_1 := Aside0.mk hl139_1; clear hi139_1 hl139_1; replace p139 := eq_true p139; replace q139 := eq_true q139; have ea_ := Option.some.inj (hx134_1.symm.trans hx139_1); injection ea_ with ea_ en_ ec_; subst ea_; subst ec_; clear en_; have p140 : 0 ≤ (x5_1 : Int) := of_decide_eq_true (by first | (with_reducible assumption) | assumption); have q140 : x5_1 < (l1.length : Int) := of_decide_eq_true (by first | (with_reducible assumption) | assumption); obtain ⟨ad140, A140_1, c140_1, e140, hx140_0, hx140_1, hx140_2, hl140_1, hi140_1⟩ := at_T43 HR1.out x5_1 p140 q140; obtain rfl : ad135 = ad140 := (by injection e140); have HR140_1 := Aside0.mk hi140_1; have HC140_1 := Aside0.mk hl140_1; clear hi140_1 hl140_1; replace p140 := eq_true p140; replace q140 := eq_true q140; have ea_ := Option.some.inj (hx135_1.symm.trans hx140_1); injection ea_ with ea_ en_ ec_; subst ea_; subst ec_; clear en_)); try go_wp2_with (first | (go_at_call 29; (with_reducible refine (squintlaw04_numbers.calls k1 _ _ ((rd_T43 l0 x5_1).f1) _ _ ((rd_T43 l1 x5_1).f1) true _ ?side1 ?side2 ?side3 ?side4 A7.out).mono ?_); (case side1 => repeat (first | exact HR134_1.out | (with_reducible refine Kd.C_alloc ?_ _) | (with_reducible refine Kd.C_drewN ?_ _) | (with_reducible refine Kd.C_drew ?_))); (case side2 => exact HC134_1.out); (case side3 => repeat (first | exact HR135_1.out | (with_reducible refine Kd.C_alloc ?_ _) | (with_reducible refine Kd.C_drewN ?_ _) | (with_reducible refine Kd.C_drew ?_))); (case side4 => exact HC135_1.out); rintro e w' ⟨rfl, ⟨nd, rfl⟩⟩; (try first | exact ⟨rfl, _, World.drewN_drewN _ _ _⟩ | exact ⟨rfl, _, Eq.trans (World.drewN_drewN _ _ _) (congrArg (World.drewN _) (Nat.add_assoc _ _ _))⟩); have p137 : 0 ≤ (x5_1 : Int) := of_decide_eq_true (by first | (with_reducible assumption) | assumption); have q137 : x5_1 < (l0.length : Int) := of_decide_eq_true (by first | (with_reducible assumption) | assumption); obtain ⟨ad137, A137_1, c137_1, e137, hx137_0, hx137_1, hx137_2, hl137_1, hi137_1⟩ := at_T43 HR0.out x5_1 p137 q137; obtain rfl : ad134 = ad137 := (by injection e137); have HR137_1 := Aside0.mk hi137_1; have HC137_1 := Aside0.mk hl137_1; clear hi137_1 hl137_1; replace p137 := eq_true p137; replace q137 := eq_true q137; have ea_ := Option.some.inj (hx134_1.symm.trans hx137_1); injection ea_ with ea_ en_ ec_; subst ea_; subst ec_; clear en_; have p138 : 0 ≤ (x5_1 : Int) := of_decide_eq_true (by first | (with_reducible assumption) | assumption); have q138 : x5_1 < (l1.length : Int) := of_decide_eq_true (by first | (with_reducible assumption) | assumption); obtain ⟨ad138, A138_1, c138_1, e138, hx138_0, hx138_1, hx138_2, hl138_1, hi138_1⟩ := at_T43 HR1.out x5_1 p138 q138; obtain rfl : ad135 = ad138 := (by injection e138); have HR138_1 := Aside0.mk hi138_1; have HC138_1 := Aside0.mk hl138_1; clear hi138_1 hl138_1; replace p138 := eq_true p138; replace q138 := eq_true q138; have ea_ := Option.some.inj (hx135_1.symm.trans hx138_1); injection ea_ with ea_ en_ ec_; subst ea_; subst ec_; clear en_; have p139 : 0 ≤ (x5_1 : Int) := of_decide_eq_true (by first | (with_reducible assumption) | assumption); have q139 : x5_1 < (l0.length : Int) := of_decide_eq_true (by first | (with_reducible assumption) | assumption); obtain ⟨ad139, A139_1, c139_1, e139, hx139_0, hx139_1, hx139_2, hl139_1, hi139_1⟩ := at_T43 HR0.out x5_1 p139 q139; obtain rfl : ad134 = ad139 := (by injection e139); have HR139_1 := Aside0.mk hi139_1; have HC139_1 := Aside0.mk hl139_1; clear hi139_1 hl139_1; replace p139 := eq_true p139; replace q139 := eq_true q139; have ea_ := Option.some.inj (hx134_1.symm.trans hx139_1); injection ea_ with ea_ en_ ec_; subst ea_; subst ec_; clear en_; have p140 : 0 ≤ (x5_1 : Int) := of_decide_eq_true (by first | (with_reducible assumption) | assumption); have q140 : x5_1 < (l1.length : Int) := of_decide_eq_true (by first | (with_reducible assumption) | assumption); obtain ⟨ad140, A140_1, c140_1, e140, hx140_0, hx140_1, hx140_2, hl140_1, hi140_1⟩ := at_T43 HR1.out x5_1 p140 q140; obtain rfl : ad135 = ad140 := (by injection e140); have HR140_1 := Aside0.mk hi140_1; have HC140_1 := Aside0.mk hl140_1; clear hi140_1 hl140_1; replace p140 := eq_true p140; replace q140 := eq_true q140; have ea_ := Option.some.inj (hx135_1.symm.trans hx140_1); injection ea_ with ea_ en_ ec_; subst ea_; subst ec_; clear en_)))
                    go_ret
                    exact ⟨by first | rfl | (simp; done) | (simp [*]; done), by repeat (first | exact Drawn0.refl _ | apply Drawn0.step)⟩
                  · rw [if_neg c10] at H
                    have c10b0 : (((rd_T43 l0 x5_1).f2) != ((rd_T43 l1 x5_1).f2)) = false := by simpa using c10
                    (try (have c10b1 : decide (((rd_T43 l0 x5_1).f2) = ((rd_T43 l1 x5_1).f2)) = true := by simpa using c10))
                    (try (have c10b2 : (((rd_T43 l0 x5_1).f2) == ((rd_T43 l1 x5_1).f2)) = true := by simpa using c10))
                    clear c10
                    have H' := Aside0.mk H
                    clear H
                    have p134 : 0 ≤ (x5_1 : Int) := of_decide_eq_true (by first | (with_reducible assumption) | assumption)
                    have q134 : x5_1 < (l0.length : Int) := of_decide_eq_true (by first | (with_reducible assumption) | assumption)
                    obtain ⟨ad134, A134_1, c134_1, e134, hx134_0, hx134_1, hx134_2, hl134_1, hi134_1⟩ := at_T43 HR0.out x5_1 p134 q134
                    cases e134
                    have HR134_1 := Aside0.mk hi134_1
                    have HC134_1 := Aside0.mk hl134_1
                    clear hi134_1 hl134_1
                    replace p134 := eq_true p134
                    replace q134 := eq_true q134
                    have p135 : 0 ≤ (x5_1 : Int) := of_decide_eq_true (by first | (with_reducible assumption) | assumption)
                    have q135 : x5_1 < (l1.length : Int) := of_decide_eq_true (by first | (with_reducible assumption) | assumption)
                    obtain ⟨ad135, A135_1, c135_1, e135, hx135_0, hx135_1, hx135_2, hl135_1, hi135_1⟩ := at_T43 HR1.out x5_1 p135 q135
                    cases e135
                    have HR135_1 := Aside0.mk hi135_1
                    have HC135_1 := Aside0.mk hl135_1
                    clear hi135_1 hl135_1
                    replace p135 := eq_true p135
                    replace q135 := eq_true q135
                    go_wp2_with (first | (go_at_call 29; (with_reducible refine (squintlaw04_numbers.calls k1 _ _ ((rd_T43 l0 x5_1).f1) _ _ ((rd_T43 l1 x5_1).f1) true _ ?side1 ?side2 ?side3 ?side4 A7.out).mono ?_); (case side1 => repeat (first | exact HR134_1.out | (with_reducible refine Kd.C_alloc ?_ _) | (with_reducible refine Kd.C_drewN ?_ _) | (with_reducible refine Kd.C_drew ?_))); (case side2 => exact HC134_1.out); (case side3 => repeat (first | exact HR135_1.out | (with_reducible refine Kd.C_alloc ?_ _) | (with_reducible refine Kd.C_drewN ?_ _) | (with_reducible refine Kd.C_drew ?_))); (case side4 => exact HC135_1.out); rintro e w' ⟨rfl, ⟨nd, rfl⟩⟩; (try first | exact ⟨rfl, _, World.drewN_drewN _ _ _⟩ | exact ⟨rfl, _, Eq.trans (World.drewN_drewN _ _ _) (congrArg (World.drewN _) (Nat.add_assoc _ _ _))⟩); have p137 : 0 ≤ (x5_1 : Int) := of_decide_eq_true (by first | (with_reducible assumption) | assumption); have q137 : x5_1 < (l0.length : Int) := of_decide_eq_true (by first | (with_reducible assumption) | assumption); obtain ⟨ad137, A137_1, c137_1, e137, hx137_0, hx137_1, hx137_2, hl137_1, hi137_1⟩ := at_T43 HR0.out x5_1 p137 q137; obtain rfl : ad134 = ad137 := (by injection e137); have HR137_1 := Aside0.mk hi137_1; have HC137_1 := Aside0.mk hl137_1; clear hi137_1 hl137_1; replace p137 := eq_true p137; replace q137 := eq_true q137; have ea_ := Option.some.inj (hx134_1.symm.trans hx137_1); injection ea_ with ea_ en_ ec_; subst ea_; subst ec_; clear en_; have p138 : 0 ≤ (x5_1 : Int) := of_decide_eq_true (by first | (with_reducible assumption) | assumption); have q138 : x5_1 < (l1.length : Int) := of_decide_eq_true (by first | (with_reducible assumption) | assumption); obtain ⟨ad138, A138_1, c138_1, e138, hx138_0, hx138_1, hx138_2, hl138_1, hi138_1⟩ := at_T43 HR1.out x5_1 p138 q138; obtain rfl : ad135 = ad138 := (by injection e138); have HR138_1 := Aside0.mk hi138_1; have HC138_1 := Aside0.mk hl138_1; clear hi138_1 hl138_1; replace p138 := eq_true p138; replace q138 := eq_true q138; have ea_ := Option.some.inj (hx135_1.symm.trans hx138_1); injection ea_ with ea_ en_ ec_; subst ea_; subst ec_; clear en_; have p139 : 0 ≤ (x5_1 : Int) := of_decide_eq_true (by first | (with_reducible assumption) | assumption); have q139 : x5_1 < (l0.length : Int) := of_decide_eq_true (by first | (with_reducible assumption) | assumption); obtain ⟨ad139, A139_1, c139_1, e139, hx139_0, hx139_1, hx139_2, hl139_1, hi139_1⟩ := at_T43 HR0.out x5_1 p139 q139; obtain rfl : ad134 = ad139 := (by injection e139); have HR139_1 := Aside0.mk hi139_1; have HC139_1 := Aside0.mk hl139_1; clear hi139_1 hl139_1; replace p139 := eq_true p139; replace q139 := eq_true q139; have ea_ := Option.some.inj (hx134_1.symm.trans hx139_1); injection ea_ with ea_ en_ ec_; subst ea_; subst ec_; clear en_; have p140 : 0 ≤ (x5_1 : Int) := of_decide_eq_true (by first | (with_reducible assumption) | assumption); have q140 : x5_1 < (l1.length : Int) := of_decide_eq_true (by first | (with_reducible assumption) | assumption); obtain ⟨ad140, A140_1, c140_1, e140, hx140_0, hx140_1, hx140_2, hl140_1, hi140_1⟩ := at_T43 HR1.out x5_1 p140 q140; obtain rfl : ad135 = ad140 := (by injection e140); have HR140_1 := Aside0.mk hi140_1; have HC140_1 := Aside0.mk hl140_1; clear hi140_1 hl140_1; replace p140 := eq_true p140; replace q140 := eq_true q140; have ea_ := Option.some.inj (hx135_1.symm.trans hx140_1); injection ea_ with ea_ en_ ec_; subst ea_; subst ec_; clear en_))
                    repeat (go_quiet (first | (go_at_call 29; (with_reducible refine (squintlaw04_numbers.calls k1 _ _ ((rd_T43 l0 x5_1).f1) _ _ ((rd_T43 l1 x5_1).f1) true _ ?side1 ?side2 ?side3 ?side4 A7.out).mono ?_); (case side1 => repeat (first | exact HR134_1.out | (with_reducible refine Kd.C_alloc ?_ _) | (with_reducible refine Kd.C_drewN ?_ _) | (with_reducible refine Kd.C_drew ?_))); (case side2 => exact HC134_1.out); (case side3 => repeat (first | exact HR135_1.out | (with_reducible refine Kd.C_alloc ?_ _) | (with_reducible refine Kd.C_drewN ?_ _) | (with_reducible refine Kd.C_drew ?_))); (case side4 => exact HC135_1.out); rintro e w' ⟨rfl, ⟨nd, rfl⟩⟩; (try first | exact ⟨rfl, _, World.drewN_drewN _ _ _⟩ | exact ⟨rfl, _, Eq.trans (World.drewN_drewN _ _ _) (congrArg (World.drewN _) (Nat.add_assoc _ _ _))⟩); have p137 : 0 ≤ (x5_1 : Int) := of_decide_eq_true (by first | (with_reducible assumption) | assumption); have q137 : x5_1 < (l0.length : Int) := of_decide_eq_true (by first | (with_reducible assumption) | assumption); obtain ⟨ad137, A137_1, c137_1, e137, hx137_0, hx137_1, hx137_2, hl137_1, hi137_1⟩ := at_T43 HR0.out x5_1 p137 q137; obtain rfl : ad134 = ad137 := (by injection e137); have HR137_1 := Aside0.mk hi137_1; have HC137_1 := Aside0.mk hl137_1; clear hi137_1 hl137_1; replace p137 := eq_true p137; replace q137 := eq_true q137; have ea_ := Option.some.inj (hx134_1.symm.trans hx137_1); injection ea_ with ea_ en_ ec_; subst ea_; subst ec_; clear en_; have p138 : 0 ≤ (x5_1 : Int) := of_decide_eq_true (by first | (with_reducible assumption) | assumption); have q138 : x5_1 < (l1.length : Int) := of_decide_eq_true (by first | (with_reducible assumption) | assumption); obtain ⟨ad138, A138_1, c138_1, e138, hx138_0, hx138_1, hx138_2, hl138_1, hi138_1⟩ := at_T43 HR1.out x5_1 p138 q138; obtain rfl : ad135 = ad138 := (by injection e138); have HR138_1 := Aside0.mk hi138_1; have HC138_1 := Aside0.mk hl138_1; clear hi138_1 hl138_1; replace p138 := eq_true p138; replace q138 := eq_true q138; have ea_ := Option.some.inj (hx135_1.symm.trans hx138_1); injection ea_ with ea_ en_ ec_; subst ea_; subst ec_; clear en_; have p139 : 0 ≤ (x5_1 : Int) := of_decide_eq_true (by first | (with_reducible assumption) | assumption); have q139 : x5_1 < (l0.length : Int) := of_decide_eq_true (by first | (with_reducible assumption) | assumption); obtain ⟨ad139, A139_1, c139_1, e139, hx139_0, hx139_1, hx139_2, hl139_1, hi139_1⟩ := at_T43 HR0.out x5_1 p139 q139; obtain rfl : ad134 = ad139 := (by injection e139); have HR139_1 := Aside0.mk hi139_1; have HC139_1 := Aside0.mk hl139_1; clear hi139_1 hl139_1; replace p139 := eq_true p139; replace q139 := eq_true q139; have ea_ := Option.some.inj (hx134_1.symm.trans hx139_1); injection ea_ with ea_ en_ ec_; subst ea_; subst ec_; clear en_; have p140 : 0 ≤ (x5_1 : Int) := of_decide_eq_true (by first | (with_reducible assumption) | assumption); have q140 : x5_1 < (l1.length : Int) := of_decide_eq_true (by first | (with_reducible assumption) | assumption); obtain ⟨ad140, A140_1, c140_1, e140, hx140_0, hx140_1, hx140_2, hl140_1, hi140_1⟩ := at_T43 HR1.out x5_1 p140 q140; obtain rfl : ad135 = ad140 := (by injection e140); have HR140_1 := Aside0.mk hi140_1; have HC140_1 := Aside0.mk hl140_1; clear hi140_1 hl140_1; replace p140 := eq_true p140; replace q140 := eq_true q140; have ea_ := Option.some.inj (hx135_1.symm.trans hx140_1); injection ea_ with ea_ en_ ec_; subst ea_; subst ec_; clear en_)); try go_wp2_with (first | (go_at_call 29; (with_reducible refine (squintlaw04_numbers.calls k1 _ _ ((rd_T43 l0 x5_1).f1) _ _ ((rd_T43 l1 x5_1).f1) true _ ?side1 ?side2 ?side3 ?side4 A7.out).mono ?_); (case side1 => repeat (first | exact HR134_1.out | (with_reducible refine Kd.C_alloc ?_ _) | (with_reducible refine Kd.C_drewN ?_ _) | (with_reducible refine Kd.C_drew ?_))); (case side2 => exact HC134_1.out); (case side3 => repeat (first | exact HR135_1.out | (with_reducible refine Kd.C_alloc ?_ _) | (with_reducible refine Kd.C_drewN ?_ _) | (with_reducible refine Kd.C_drew ?_))); (case side4 => exact HC135_1.out); rintro e w' ⟨rfl, ⟨nd, rfl⟩⟩; (try first | exact ⟨rfl, _, World.drewN_drewN _ _ _⟩ | exact ⟨rfl, _, Eq.trans (World.drewN_drewN _ _ _) (congrArg (World.drewN _) (Nat.add_assoc _ _ _))⟩); have p137 : 0 ≤ (x5_1 : Int) := of_decide_eq_true (by first | (with_reducible assumption) | assumption); have q137 : x5_1 < (l0.length : Int) := of_decide_eq_true (by first | (with_reducible assumption) | assumption); obtain ⟨ad137, A137_1, c137_1, e137, hx137_0, hx137_1, hx137_2, hl137_1, hi137_1⟩ := at_T43 HR0.out x5_1 p137 q137; obtain rfl : ad134 = ad137 := (by injection e137); have HR137_1 := Aside0.mk hi137_1; have HC137_1 := Aside0.mk hl137_1; clear hi137_1 hl137_1; replace p137 := eq_true p137; replace q137 := eq_true q137; have ea_ := Option.some.inj (hx134_1.symm.trans hx137_1); injection ea_ with ea_ en_ ec_; subst ea_; subst ec_; clear en_; have p138 : 0 ≤ (x5_1 : Int) := of_decide_eq_true (by first | (with_reducible assumption) | assumption); have q138 : x5_1 < (l1.length : Int) := of_decide_eq_true (by first | (with_reducible assumption) | assumption); obtain ⟨ad138, A138_1, c138_1, e138, hx138_0, hx138_1, hx138_2, hl138_1, hi138_1⟩ := at_T43 HR1.out x5_1 p138 q138; obtain rfl : ad135 = ad138 := (by injection e138); have HR138_1 := Aside0.mk hi138_1; have HC138_1 := Aside0.mk hl138_1; clear hi138_1 hl138_1; replace p138 := eq_true p138; replace q138 := eq_true q138; have ea_ := Option.some.inj (hx135_1.symm.trans hx138_1); injection ea_ with ea_ en_ ec_; subst ea_; subst ec_; clear en_; have p139 : 0 ≤ (x5_1 : Int) := of_decide_eq_true (by first | (with_reducible assumption) | assumption); have q139 : x5_1 < (l0.length : Int) := of_decide_eq_true (by first | (with_reducible assumption) | assumption); obtain ⟨ad139, A139_1, c139_1, e139, hx139_0, hx139_1, hx139_2, hl139_1, hi139_1⟩ := at_T43 HR0.out x5_1 p139 q139; obtain rfl : ad134 = ad139 := (by injection e139); have HR139_1 := Aside0.mk hi139_1; have HC139_1 := Aside0.mk hl139_1; clear hi139_1 hl139_1; replace p139 := eq_true p139; replace q139 := eq_true q139; have ea_ := Option.some.inj (hx134_1.symm.trans hx139_1); injection ea_ with ea_ en_ ec_; subst ea_; subst ec_; clear en_; have p140 : 0 ≤ (x5_1 : Int) := of_decide_eq_true (by first | (with_reducible assumption) | assumption); have q140 : x5_1 < (l1.length : Int) := of_decide_eq_true (by first | (with_reducible assumption) | assumption); obtain ⟨ad140, A140_1, c140_1, e140, hx140_0, hx140_1, hx140_2, hl140_1, hi140_1⟩ := at_T43 HR1.out x5_1 p140 q140; obtain rfl : ad135 = ad140 := (by injection e140); have HR140_1 := Aside0.mk hi140_1; have HC140_1 := Aside0.mk hl140_1; clear hi140_1 hl140_1; replace p140 := eq_true p140; replace q140 := eq_true q140; have ea_ := Option.some.inj (hx135_1.symm.trans hx140_1); injection ea_ with ea_ en_ ec_; subst ea_; subst ec_; clear en_)))
                    go_roundg k1
                    case measure => have := HK1.out; omega
                    case rel => exact ⟨(wrap64 (x5_1 + 1)), (by first | rfl | (simp; done) | (simp [*]; done)), H', ⟨by have := HK1.out; omega⟩, by repeat (first | exact Drawn0.refl _ | apply Drawn0.step)⟩
                · rw [if_neg c9] at H
                  have c9b0 : (((rd_T43 l0 x5_1).f0) == ((rd_T43 l1 x5_1).f0)) = false := beq_eq_false_iff_ne.mpr c9
                  have c9b1 : (((rd_T43 l0 x5_1).f0) != ((rd_T43 l1 x5_1).f0)) = true := bne_iff_ne.mpr c9
                  obtain rfl := Option.some.inj H
                  have p134 : 0 ≤ (x5_1 : Int) := of_decide_eq_true (by first | (with_reducible assumption) | assumption)
                  have q134 : x5_1 < (l0.length : Int) := of_decide_eq_true (by first | (with_reducible assumption) | assumption)
                  obtain ⟨ad134, A134_1, c134_1, e134, hx134_0, hx134_1, hx134_2, hl134_1, hi134_1⟩ := at_T43 HR0.out x5_1 p134 q134
                  cases e134
                  have HR134_1 := Aside0.mk hi134_1
                  have HC134_1 := Aside0.mk hl134_1
                  clear hi134_1 hl134_1
                  replace p134 := eq_true p134
                  replace q134 := eq_true q134
                  have p135 : 0 ≤ (x5_1 : Int) := of_decide_eq_true (by first | (with_reducible assumption) | assumption)
                  have q135 : x5_1 < (l1.length : Int) := of_decide_eq_true (by first | (with_reducible assumption) | assumption)
                  obtain ⟨ad135, A135_1, c135_1, e135, hx135_0, hx135_1, hx135_2, hl135_1, hi135_1⟩ := at_T43 HR1.out x5_1 p135 q135
                  cases e135
                  have HR135_1 := Aside0.mk hi135_1
                  have HC135_1 := Aside0.mk hl135_1
                  clear hi135_1 hl135_1
                  replace p135 := eq_true p135
                  replace q135 := eq_true q135
                  go_wp2_with (first | (go_at_call 29; (with_reducible refine (squintlaw04_numbers.calls k1 _ _ ((rd_T43 l0 x5_1).f1) _ _ ((rd_T43 l1 x5_1).f1) true _ ?side1 ?side2 ?side3 ?side4 A7.out).mono ?_); (case side1 => repeat (first | exact HR134_1.out | (with_reducible refine Kd.C_alloc ?_ _) | (with_reducible refine Kd.C_drewN ?_ _) | (with_reducible refine Kd.C_drew ?_))); (case side2 => exact HC134_1.out); (case side3 => repeat (first | exact HR135_1.out | (with_reducible refine Kd.C_alloc ?_ _) | (with_reducible refine Kd.C_drewN ?_ _) | (with_reducible refine Kd.C_drew ?_))); (case side4 => exact HC135_1.out); rintro e w' ⟨rfl, ⟨nd, rfl⟩⟩; (try first | exact ⟨rfl, _, World.drewN_drewN _ _ _⟩ | exact ⟨rfl, _, Eq.trans (World.drewN_drewN _ _ _) (congrArg (World.drewN _) (Nat.add_assoc _ _ _))⟩); have p137 : 0 ≤ (x5_1 : Int) := of_decide_eq_true (by first | (with_reducible assumption) | assumption); have q137 : x5_1 < (l0.length : Int) := of_decide_eq_true (by first | (with_reducible assumption) | assumption); obtain ⟨ad137, A137_1, c137_1, e137, hx137_0, hx137_1, hx137_2, hl137_1, hi137_1⟩ := at_T43 HR0.out x5_1 p137 q137; obtain rfl : ad134 = ad137 := (by injection e137); have HR137_1 := Aside0.mk hi137_1; have HC137_1 := Aside0.mk hl137_1; clear hi137_1 hl137_1; replace p137 := eq_true p137; replace q137 := eq_true q137; have ea_ := Option.some.inj (hx134_1.symm.trans hx137_1); injection ea_ with ea_ en_ ec_; subst ea_; subst ec_; clear en_; have p138 : 0 ≤ (x5_1 : Int) := of_decide_eq_true (by first | (with_reducible assumption) | assumption); have q138 : x5_1 < (l1.length : Int) := of_decide_eq_true (by first | (with_reducible assumption) | assumption); obtain ⟨ad138, A138_1, c138_1, e138, hx138_0, hx138_1, hx138_2, hl138_1, hi138_1⟩ := at_T43 HR1.out x5_1 p138 q138; obtain rfl : ad135 = ad138 := (by injection e138); have HR138_1 := Aside0.mk hi138_1; have HC138_1 := Aside0.mk hl138_1; clear hi138_1 hl138_1; replace p138 := eq_true p138; replace q138 := eq_true q138; have ea_ := Option.some.inj (hx135_1.symm.trans hx138_1); injection ea_ with ea_ en_ ec_; subst ea_; subst ec_; clear en_))
                  repeat (go_quiet (first | (go_at_call 29; (with_reducible refine (squintlaw04_numbers.calls k1 _ _ ((rd_T43 l0 x5_1).f1) _ _ ((rd_T43 l1 x5_1).f1) true _ ?side1 ?side2 ?side3 ?side4 A7.out).mono ?_); (case side1 => repeat (first | exact HR134_1.out | (with_reducible refine Kd.C_alloc ?_ _) | (with_reducible refine Kd.C_drewN ?_ _) | (with_reducible refine Kd.C_drew ?_))); (case side2 => exact HC134_1.out); (case side3 => repeat (first | exact HR135_1.out | (with_reducible refine Kd.C_alloc ?_ _) | (with_reducible refine Kd.C_drewN ?_ _) | (with_reducible refine Kd.C_drew ?_))); (case side4 => exact HC135_1.out); rintro e w' ⟨rfl, ⟨nd, rfl⟩⟩; (try first | exact ⟨rfl, _, World.drewN_drewN _ _ _⟩ | exact ⟨rfl, _, Eq.trans (World.drewN_drewN _ _ _) (congrArg (World.drewN _) (Nat.add_assoc _ _ _))⟩); have p137 : 0 ≤ (x5_1 : Int) := of_decide_eq_true (by first | (with_reducible assumption) | assumption); have q137 : x5_1 < (l0.length : Int) := of_decide_eq_true (by first | (with_reducible assumption) | assumption); obtain ⟨ad137, A137_1, c137_1, e137, hx137_0, hx137_1, hx137_2, hl137_1, hi137_1⟩ := at_T43 HR0.out x5_1 p137 q137; obtain rfl : ad134 = ad137 := (by injection e137); have HR137_1 := Aside0.mk hi137_1; have HC137_1 := Aside0.mk hl137_1; clear hi137_1 hl137_1; replace p137 := eq_true p137; replace q137 := eq_true q137; have ea_ := Option.some.inj (hx134_1.symm.trans hx137_1); injection ea_ with ea_ en_ ec_; subst ea_; subst ec_; clear en_; have p138 : 0 ≤ (x5_1 : Int) := of_decide_eq_true (by first | (with_reducible assumption) | assumption); have q138 : x5_1 < (l1.length : Int) := of_decide_eq_true (by first | (with_reducible assumption) | assumption); obtain ⟨ad138, A138_1, c138_1, e138, hx138_0, hx138_1, hx138_2, hl138_1, hi138_1⟩ := at_T43 HR1.out x5_1 p138 q138; obtain rfl : ad135 = ad138 := (by injection e138); have HR138_1 := Aside0.mk hi138_1; have HC138_1 := Aside0.mk hl138_1; clear hi138_1 hl138_1; replace p138 := eq_true p138; replace q138 := eq_true q138; have ea_ := Option.some.inj (hx135_1.symm.trans hx138_1); injection ea_ with ea_ en_ ec_; subst ea_; subst ec_; clear en_)); try go_wp2_with (first | (go_at_call 29; (with_reducible refine (squintlaw04_numbers.calls k1 _ _ ((rd_T43 l0 x5_1).f1) _ _ ((rd_T43 l1 x5_1).f1) true _ ?side1 ?side2 ?side3 ?side4 A7.out).mono ?_); (case side1 => repeat (first | exact HR134_1.out | (with_reducible refine Kd.C_alloc ?_ _) | (with_reducible refine Kd.C_drewN ?_ _) | (with_reducible refine Kd.C_drew ?_))); (case side2 => exact HC134_1.out); (case side3 => repeat (first | exact HR135_1.out | (with_reducible refine Kd.C_alloc ?_ _) | (with_reducible refine Kd.C_drewN ?_ _) | (with_reducible refine Kd.C_drew ?_))); (case side4 => exact HC135_1.out); rintro e w' ⟨rfl, ⟨nd, rfl⟩⟩; (try first | exact ⟨rfl, _, World.drewN_drewN _ _ _⟩ | exact ⟨rfl, _, Eq.trans (World.drewN_drewN _ _ _) (congrArg (World.drewN _) (Nat.add_assoc _ _ _))⟩); have p137 : 0 ≤ (x5_1 : Int) := of_decide_eq_true (by first | (with_reducible assumption) | assumption); have q137 : x5_1 < (l0.length : Int) := of_decide_eq_true (by first | (with_reducible assumption) | assumption); obtain ⟨ad137, A137_1, c137_1, e137, hx137_0, hx137_1, hx137_2, hl137_1, hi137_1⟩ := at_T43 HR0.out x5_1 p137 q137; obtain rfl : ad134 = ad137 := (by injection e137); have HR137_1 := Aside0.mk hi137_1; have HC137_1 := Aside0.mk hl137_1; clear hi137_1 hl137_1; replace p137 := eq_true p137; replace q137 := eq_true q137; have ea_ := Option.some.inj (hx134_1.symm.trans hx137_1); injection ea_ with ea_ en_ ec_; subst ea_; subst ec_; clear en_; have p138 : 0 ≤ (x5_1 : Int) := of_decide_eq_true (by first | (with_reducible assumption) | assumption); have q138 : x5_1 < (l1.length : Int) := of_decide_eq_true (by first | (with_reducible assumption) | assumption); obtain ⟨ad138, A138_1, c138_1, e138, hx138_0, hx138_1, hx138_2, hl138_1, hi138_1⟩ := at_T43 HR1.out x5_1 p138 q138; obtain rfl : ad135 = ad138 := (by injection e138); have HR138_1 := Aside0.mk hi138_1; have HC138_1 := Aside0.mk hl138_1; clear hi138_1 hl138_1; replace p138 := eq_true p138; replace q138 := eq_true q138; have ea_ := Option.some.inj (hx135_1.symm.trans hx138_1); injection ea_ with ea_ en_ ec_; subst ea_; subst ec_; clear en_)))
                  go_ret
                  exact ⟨by first | rfl | (simp; done) | (simp [*]; done), by repeat (first | exact Drawn0.refl _ | apply Drawn0.step)⟩
              · replace c8 := Bool.eq_false_iff.mpr c8
                subst c8
                have H1 : (some false) = some r := by rw [if_neg (show ¬ (false = true) by decide)] at H; exact H
                clear H
                have H := H1
                clear H1
                obtain rfl := Option.some.inj H
                have p134 : 0 ≤ (x5_1 : Int) := of_decide_eq_true (by first | (with_reducible assumption) | assumption)
                have q134 : x5_1 < (l0.length : Int) := of_decide_eq_true (by first | (with_reducible assumption) | assumption)
                obtain ⟨ad134, A134_1, c134_1, e134, hx134_0, hx134_1, hx134_2, hl134_1, hi134_1⟩ := at_T43 HR0.out x5_1 p134 q134
                cases e134
                have HR134_1 := Aside0.mk hi134_1
                have HC134_1 := Aside0.mk hl134_1
                clear hi134_1 hl134_1
                replace p134 := eq_true p134
                replace q134 := eq_true q134
                have p135 : 0 ≤ (x5_1 : Int) := of_decide_eq_true (by first | (with_reducible assumption) | assumption)
                have q135 : x5_1 < (l1.length : Int) := of_decide_eq_true (by first | (with_reducible assumption) | assumption)
                obtain ⟨ad135, A135_1, c135_1, e135, hx135_0, hx135_1, hx135_2, hl135_1, hi135_1⟩ := at_T43 HR1.out x5_1 p135 q135
                cases e135
                have HR135_1 := Aside0.mk hi135_1
                have HC135_1 := Aside0.mk hl135_1
                clear hi135_1 hl135_1
                replace p135 := eq_true p135
                replace q135 := eq_true q135
                go_wp2_with (first | (go_at_call 29; (with_reducible refine (squintlaw04_numbers.calls k1 _ _ ((rd_T43 l0 x5_1).f1) _ _ ((rd_T43 l1 x5_1).f1) false _ ?side1 ?side2 ?side3 ?side4 A7.out).mono ?_); (case side1 => repeat (first | exact HR134_1.out | (with_reducible refine Kd.C_alloc ?_ _) | (with_reducible refine Kd.C_drewN ?_ _) | (with_reducible refine Kd.C_drew ?_))); (case side2 => exact HC134_1.out); (case side3 => repeat (first | exact HR135_1.out | (with_reducible refine Kd.C_alloc ?_ _) | (with_reducible refine Kd.C_drewN ?_ _) | (with_reducible refine Kd.C_drew ?_))); (case side4 => exact HC135_1.out); rintro e w' ⟨rfl, ⟨nd, rfl⟩⟩; (try first | exact ⟨rfl, _, World.drewN_drewN _ _ _⟩ | exact ⟨rfl, _, Eq.trans (World.drewN_drewN _ _ _) (congrArg (World.drewN _) (Nat.add_assoc _ _ _))⟩)))
                repeat (go_quiet (first | (go_at_call 29; (with_reducible refine (squintlaw04_numbers.calls k1 _ _ ((rd_T43 l0 x5_1).f1) _ _ ((rd_T43 l1 x5_1).f1) false _ ?side1 ?side2 ?side3 ?side4 A7.out).mono ?_); (case side1 => repeat (first | exact HR134_1.out | (with_reducible refine Kd.C_alloc ?_ _) | (with_reducible refine Kd.C_drewN ?_ _) | (with_reducible refine Kd.C_drew ?_))); (case side2 => exact HC134_1.out); (case side3 => repeat (first | exact HR135_1.out | (with_reducible refine Kd.C_alloc ?_ _) | (with_reducible refine Kd.C_drewN ?_ _) | (with_reducible refine Kd.C_drew ?_))); (case side4 => exact HC135_1.out); rintro e w' ⟨rfl, ⟨nd, rfl⟩⟩; (try first | exact ⟨rfl, _, World.drewN_drewN _ _ _⟩ | exact ⟨rfl, _, Eq.trans (World.drewN_drewN _ _ _) (congrArg (World.drewN _) (Nat.add_assoc _ _ _))⟩))); try go_wp2_with (first | (go_at_call 29; (with_reducible refine (squintlaw04_numbers.calls k1 _ _ ((rd_T43 l0 x5_1).f1) _ _ ((rd_T43 l1 x5_1).f1) false _ ?side1 ?side2 ?side3 ?side4 A7.out).mono ?_); (case side1 => repeat (first | exact HR134_1.out | (with_reducible refine Kd.C_alloc ?_ _) | (with_reducible refine Kd.C_drewN ?_ _) | (with_reducible refine Kd.C_drew ?_))); (case side2 => exact HC134_1.out); (case side3 => repeat (first | exact HR135_1.out | (with_reducible refine Kd.C_alloc ?_ _) | (with_reducible refine Kd.C_drewN ?_ _) | (with_reducible refine Kd.C_drew ?_))); (case side4 => exact HC135_1.out); rintro e w' ⟨rfl, ⟨nd, rfl⟩⟩; (try first | exact ⟨rfl, _, World.drewN_drewN _ _ _⟩ | exact ⟨rfl, _, Eq.trans (World.drewN_drewN _ _ _) (congrArg (World.drewN _) (Nat.add_assoc _ _ _))⟩))))
                go_ret
                exact ⟨by first | rfl | (simp; done) | (simp [*]; done), by repeat (first | exact Drawn0.refl _ | apply Drawn0.step)⟩
            · rw [if_neg c6] at H
              exact absurd H (by simp)
          · rw [if_neg c5] at H
            exact absurd H (by simp)
        · rw [if_neg c4] at H
          have c4b0 : decide (x5_1 < (l0.length : Int)) = false := decide_eq_false c4
          clear c4
          obtain rfl := Option.some.inj H
          go_wp2
          repeat (go_quiet (fail); try go_wp2)
          go_ret
          exact ⟨by first | rfl | (simp; done) | (simp [*]; done), by repeat (first | exact Drawn0.refl _ | apply Drawn0.step)⟩
  · rw [if_neg c3] at H
    have c3b0 : ((l0.length : Int) == (l1.length : Int)) = false := beq_eq_false_iff_ne.mpr c3
    have c3b1 : ((l0.length : Int) != (l1.length : Int)) = true := bne_iff_ne.mpr c3
    have c3b2 : (l0.length == l1.length) = false := by first | simpa using c3 | (simp at c3 ⊢; omega)
    obtain rfl := Option.some.inj H
    go_enter Try.func20, Try.ntmps20
    go_wp2
    repeat (go_quiet (fail); try go_wp2)
    go_ret
    exact ⟨by first | rfl | (simp; done) | (simp [*]; done), by repeat (first | exact Drawn0.refl _ | apply Drawn0.step)⟩

end Go.Proofs.Ytapagakfckjhdaa.PKindsSame
